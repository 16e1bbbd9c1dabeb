/-
  Part of the proof of the law IncrementHistory over this seat: the small logic, the data, the contracts of functions (no condition).
-/
import Derived.Test.YtpdbbglpbngeiaaGreatDoorQIncrementHistory3
import Derived.Test.YtpdbbglpbngeiaaGreatDoorQIncrementHistory1
import Derived.Test.YtpdbbglpbngeiaaGreatDoorQIncrementHistory5
set_option linter.unusedVariables false
set_option linter.unusedSimpArgs false
set_option linter.unusedSectionVars false
namespace Go.Proofs.YtpdbbglpbngeiaaGreatDoor
open Go Go.Sx Go.Proofs
attribute [local irreducible] Code.wp wpList wpAnyH
open Go.Vs
theorem lb_ {α : Type} {lt : α → α → Prop} (ht : ∀ {x y z}, lt x y → lt y z → lt x z) {l : List α} {j : Nat} {b : α} (h : (l.take j).Pairwise lt) (hb : l[j]? = some b) (hab : ∀ a, 0 < j → l[j - 1]? = some a → lt a b) : (l.take (j + 1)).Pairwise lt := by
  cases j with
  | zero => exact pw_one l
  | succ k =>
    have hk := (List.getElem?_eq_some_iff.1 hb).1
    obtain ⟨a, ha⟩ : ∃ a, l[k]? = some a := ⟨_, List.getElem?_eq_getElem (by omega)⟩
    exact nR_ (lt := lt) ht h ha hb (hab a (by omega) ha)
theorem mK_ {α : Type} {lt : α → α → Prop} {l : List α} {j : Nat} {a b : α} (hj : 0 < j) (ha : l[j - 1]? = some a) (hb : l[j]? = some b) (hab : ¬ lt a b) : ¬ l.Pairwise lt := by
  obtain ⟨k, rfl⟩ : ∃ k, j = k + 1 := ⟨j - 1, by omega⟩
  exact pw_not ha hb hab
theorem mk_ {p : List Pc} {bu : Int} {c d : Cl} {e f : Int} (h : cv_ p bu c e) (k : cv_ p bu d f) : c.atoms = d.atoms ∧ c.facts = d.facts ∧ e = f := by
  by_cases h1 : br_ p = 0
  · by_cases h2 : bu < 0 ∨ 1073741824 < bu
    · unfold cv_ at h k
      rw [if_neg (by simp [h1]), if_pos h2] at h k
      obtain ⟨rfl, rfl⟩ := h
      obtain ⟨rfl, rfl⟩ := k
      exact ⟨rfl, rfl, rfl⟩
    · exact ml_ (dQ_.rfl' p) (dQ_.rfl' p) h k h1 h1 (by omega) (by omega)
  · unfold cv_ at h k
    rw [if_pos h1] at h k
    obtain ⟨rfl, rfl⟩ := h
    obtain ⟨rfl, rfl⟩ := k
    exact ⟨rfl, rfl, rfl⟩
end Go.Proofs.YtpdbbglpbngeiaaGreatDoor
namespace Go.Proofs.YtpdbbglpbngeiaaGreatDoor
open Go Go.Sx Go.Proofs
attribute [local irreducible] Code.wp wpList wpAnyH
open Go.Vs
structure Wk where
  ps : List Pc
  pad : Option Addr
  pcap : Nat
  cl : Cl
def Wk.cells (w : Wk) : List Value := .slice w.pad w.ps.length w.pcap :: w.cl.cells
theorem Wk.cells_len (w : Wk) : w.cells.length = 3 := rfl
def Wk.val (w : Wk) : Value := .agg w.cells.toArray
def Wk.no : Wk := Wk.mk [] none 0 Cl.no
structure Wk.ok (w : Wk) : Prop where
  al : w.ps.length ≤ w.pcap
  am : w.pcap ≤ maxLen
  az : w.pad = none → w.pcap = 0
  cl : w.cl.ok
theorem Wk.no_ok : Wk.no.ok := ⟨Nat.le_refl _, by simp [Wk.no], fun _ => rfl, Cl.no_ok⟩
def Wk.row (w : Wk) : List Fct := [ap_ w.pad (List.flatMap Pc.cells w.ps), ap_ w.cl.aad (List.flatMap aL_ w.cl.atoms), ap_ w.cl.fad (List.flatMap Fc.cells w.cl.facts)]
def cs_ (p : List Pc) (bu : Int) (w : Wk) (e : Int) : Prop := ∃ c, cv_ p bu c e ∧ (e = 0 → w.ps = p ∧ w.cl = c ∧ w.ok) ∧ (e ≠ 0 → w = Wk.no)
theorem cs_.ok {p : List Pc} {bu : Int} {w : Wk} {e : Int} (h : cs_ p bu w e) : w.ok := by
  obtain ⟨c, _, h1, h2⟩ := h
  by_cases he : e = 0
  · exact (h1 he).2.2
  · rw [h2 he]; exact Wk.no_ok
theorem cs_.good {p : List Pc} {bu : Int} {w : Wk} (h : cs_ p bu w 0) : w.ps = p ∧ w.ok ∧ cv_ p bu w.cl 0 := by
  obtain ⟨c, h0, h1, _⟩ := h
  obtain ⟨q1, q2, q3⟩ := h1 rfl
  exact ⟨q1, q3, q2 ▸ h0⟩
theorem cs_.len {p : List Pc} {bu : Int} {w : Wk} {e : Int} (h : cs_ p bu w e) : w.ps.length ≤ p.length ∧ w.cl.atoms.length ≤ 3 * p.length + 2 ∧ w.cl.facts.length ≤ 65536 := by
  obtain ⟨c, h0, h1, h2⟩ := h
  by_cases he : e = 0
  · obtain ⟨q1, q2, _⟩ := h1 he
    have := h0.len
    rw [q1, q2]; exact ⟨Nat.le_refl _, this⟩
  · rw [h2 he]; simp [Wk.no, Cl.no]
theorem cs_.srt {p : List Pc} {bu : Int} {w : Wk} {e : Int} (h : cs_ p bu w e) : Srt w.cl.facts := by
  obtain ⟨c, h0, h1, h2⟩ := h
  by_cases he : e = 0
  · rw [(h1 he).2.1]; exact h0.srt
  · rw [h2 he]; exact List.Pairwise.nil
section
variable {P : Program} {N : Nat} {fr : Fr} {H : Hp}
theorem cU_ {fn : Func} {t s r b n : Nat} {ty T : TypeId} {us : List Value} {u u2 : Value} (i : Nat) (hr : fn.results = #[.cell t ty, .tmp s, .tmp r]) (ha : ∀ w, (isAgg ty).run P w = .ok true w) (hs : ∀ w, (sizeOf ty).run P w = .ok n w) (hn : us.length = n) (hx : Fr.get fr t = some (zp_ b 0)) (hu : Fr.get fr s = some u) (hu2 : Fr.get fr r = some u2)
    (hi : H[i]? = some (b, .cells us.toArray T (0, 0))) (a : Act) (v : Vw) (h1 : Fr.sat N fr a) (h2 : v.sat H) : (results fn a.tmps).run P v.w = .ok (.tuple #[.agg us.toArray, u, u2]) v.w := by
  have e := h1.val t _ hx
  have e2 := h1.val s _ hu
  have e3 := h1.val r _ hu2
  have hl := ct_ (t := ty) (w := v.w) (b := b) (off := 0) ha hs hn (fun j y hj => by rw [Nat.zero_add, ex_ h2 hi]; simpa using hj)
  simp [results, hr, e, e2, e3, asAddr, hl]
end
theorem dL_ : jh_ Tryz.prog 50 [(0, 1), (1, 2)] [.slice none 0 0, .slice none 0 0, .slice none 0 0] := ⟨_, bQ_, aE_, fun w => by simp [bZ_, ad_]⟩
theorem ik_ (bu : Int) : Fn0 Tryz.prog 80 #[.int .i64 bu] (.bool (decide (0 ≤ bu ∧ bu ≤ 1073741824))) := by
  refine J_ Tryz.func80 rfl rfl Tryz.ntmps80 rfl fun v0 => ?_
  refine h_ (d_ (a_ (i_ rfl) rfl (e_ (c_ rfl (h_ (d_ (a_ (g_ rfl) rfl (x_ (de_ rfl rfl) rfl fun r1 hr1 => ?_))))))))
  refine a_ (g_ rfl) rfl ?_
  cases r1
  · skip
    replace hr1 := of_decide_eq_false hr1
    refine y_ rfl rfl rfl rfl (y_ rfl rfl rfl rfl (a_ (M_ rfl rfl) rfl (a_ (i_ rfl) rfl (e_ (c_ rfl (D_ ?_))))))
    exact aA_ Tryz.results80 () (I_ rfl (by simp; omega)) F_ (fun _ _ _ => trivial)
  · skip
    replace hr1 := of_decide_eq_true hr1
    refine r_ rfl rfl (a_ (g_ rfl) rfl (r_ rfl rfl (x_ (cS_ rfl rfl) rfl fun r2 hr2 => ?_)))
    refine a_ (W_ rfl rfl) rfl (a_ (i_ rfl) rfl (e_ (c_ rfl (D_ ?_))))
    exact aA_ Tryz.results80 () (I_ rfl (by rw [← hr2]; simp; omega)) F_ (fun _ _ _ => trivial)
theorem nr_ (p : List Pc) (pad : Option Addr) (pcap : Nat) (hc : p.length ≤ pcap) (hl : p.length ≤ 100000000) : Tri Tryz.prog 78 #[.slice pad (List.length p) pcap] [] [ap_ pad (List.flatMap Pc.cells p)] (fun y : {y : Option Addr × Nat // (p).length ≤ y.2 ∧ y.2 ≤ maxLen ∧ (y.1 = none → y.2 = 0)} => .slice y.1.1 (p).length y.1.2) (fun _ => []) (fun y => [ap_ y.1.1 ((p).flatMap Pc.cells)]) := by
  refine J_ Tryz.func78 rfl rfl Tryz.ntmps78 rfl fun v0 => ?_
  refine h_ (d_ (a_ (i_ rfl) rfl (e_ (c_ rfl (h_ (h_ (d_ (a_ (g_ rfl) rfl (x_ (jn_ Tryz.underlying22 rfl rfl) rfl fun r1 hr1 => ?_)))))))))
  refine e_ (c_ rfl ?_)
  cases r1
  · skip
    replace hr1 := of_decide_eq_false hr1
    refine s_ rfl (B_ (c_ rfl (h_ (d_ (gF_ E_ Q_ rfl fun b1 => ?_)))))
    refine ay_ f_ (a_ (g_ rfl) rfl (dr_ (news := List.flatMap Pc.cells p) et_ (ho_ b1 47 10) rfl rfl (fun q => absurd q (by assumption)) hc aO_ (by rw [dc_ Pc.cells 10 Pc.cells_len]) (fun v _ h => by exact h.1) (fun u hu => bg_ Pc.cells_one hu) (by simp only [maxLen]; ((try simp only [List.length_nil]); omega)) (by ((try simp only [List.length_nil]); omega)) rfl fun sv1 Hr1 hr1 => ?_))
    refine ay_ List.perm_append_comm ?_
    have hq1 : aS_ 47 10 sv1 (List.length (([] : List Pc) ++ p)) (List.flatMap Pc.cells (([] : List Pc) ++ p)) Hr1 := by rw [List.length_append, List.flatMap_append]; exact hr1
    refine a_ (i_ rfl) rfl (e_ (c_ rfl (D_ (cj_ hq1 aO_ fun ad2 cp2 had2 hcad2 hmad2 hzad2 => ?_))))
    exact aA_ Tryz.results78 ⟨(ad2, cp2), hcad2, hmad2, hzad2⟩ (eU_ rfl had2) F_ (fun v _ h => ⟨h.1, trivial⟩)
  · skip
    replace hr1 := of_decide_eq_true hr1
    refine p_ rfl (h_ (d_ (a_ (i_ rfl) rfl (e_ (c_ rfl (D_ (mS_ (p := List.flatMap Pc.cells p = []) (fun v _ h => by have q := h.1; rw [show pad = none by assumption] at q; exact jC_ q) fun hz => ?_)))))))
    have hz2 : p = [] := List.eq_nil_of_length_eq_zero (by have := congrArg List.length hz; rw [dc_ Pc.cells 10 Pc.cells_len] at this; simp at this; omega)
    subst hz2
    exact aA_ Tryz.results78 ⟨(none, 0), by simp⟩ rfl F_ (fun _ _ _ => ⟨.inl rfl, trivial⟩)
theorem gg_ (p : List Pc) (pad : Option Addr) (pcap : Nat) (bu : Int) (hsm : ∀ x ∈ p, x.sm) (hc : p.length ≤ pcap) (hp : p.length ≤ 100000000) : Tri Tryz.prog 34 #[.slice pad (List.length p) pcap, .int .i64 bu] [] [ap_ pad (List.flatMap Pc.cells p), eu_] (fun y : {y : Wk × Int // cs_ p bu y.1 y.2} => .tuple #[y.1.1.val, .int .i64 y.1.2]) (fun _ => []) (fun y => y.1.1.row) := by
  refine J_ Tryz.func34 rfl rfl Tryz.ntmps34 rfl fun v0 => ?_
  refine h_ (d_ (ah_ bQ_ rfl fun b1 => ?_))
  refine a_ (i_ rfl) rfl (e_ (c_ rfl (h_ (d_ (a_ (g_ rfl) rfl (a_ (g_ rfl) rfl (aa_ (lo_ p pad pcap bu hsm (by omega)) rfl F_ (fun v _ h => by exact ⟨h.1, h.2.1, trivial⟩) rfl fun ⟨⟨c1, e1⟩, hA1⟩ => ?_)))))))
  dsimp only
  dsimp only at hA1
  refine a_ (g_ rfl) rfl (a_ (V_ rfl rfl) rfl (a_ (V_ rfl rfl) rfl (ah_ fQ_ rfl fun b2 => ?_)))
  refine R_ 0 ad_ rfl rfl rfl rfl rfl rfl (a_ (i_ rfl) rfl (e_ (c_ rfl (h_ (h_ (d_ (a_ (g_ rfl) rfl (x_ (bC_ rfl rfl) rfl fun r1 hr1 => ?_))))))))
  refine e_ (c_ rfl ?_)
  cases r1
  · skip
    replace hr1 := aQ_ hr1
    refine s_ rfl (B_ (c_ rfl (h_ ?_)))
    refine aB_ ((b2, .cells (Cl.cells c1).toArray 28 (0, 0)) :: []) (by kernel_rfl) ?_
    refine ag_ 4 [0, 2] (by kernel_rfl) (fun _ a b => ⟨Vw.sat.sub (a.perm f_), b⟩) (l_ rfl (g_ rfl) rfl (l_ rfl (X_ 0 bp_ ad_ rfl rfl rfl) rfl (af_ (N_ 1 rfl (by kernel_rfl) (aa_ (nr_ p pad pcap (by omega) (by omega)) rfl F_ (fun v _ h => by exact ⟨h.2.2.1, trivial⟩) rfl fun ⟨⟨cad, ccap⟩, hcl1, hcl2, hcl3⟩ => ?_)))))
    dsimp only
    dsimp only at hcl1 hcl2 hcl3
    refine e_ (v_ rfl (C_ (fun _ a b => ⟨Vw.sat.sub (a.perm f_), b.2⟩) (ag_ 2 [3] (by kernel_rfl) (fun _ a b => ⟨Vw.sat.sub (a.perm f_), b.2⟩) (l_ rfl (aj_ dL_ rfl rfl) rfl (af_ (N_ 4 rfl (by kernel_rfl) (R_ 1 Z_ rfl rfl rfl rfl rfl rfl (e_ (v_ rfl ?_)))))))))
    refine C_ (fun _ a b => ⟨Vw.sat.sub (a.perm f_), b.2⟩) (ag_ 0 [5] (by kernel_rfl) (fun _ a b => ⟨Vw.sat.sub (a.perm f_), b.2⟩) (l_ rfl (i_ rfl) rfl (af_ (Y_ (by kernel_rfl) (c_ rfl (D_ ?_))))))
    exact dh_ ⟨((Wk.mk p cad ccap c1), 0), ⟨c1, (by assumption : e1 = 0) ▸ hA1, fun _ => ⟨rfl, rfl, ⟨hcl1, hcl2, hcl3, hA1.ok⟩⟩, fun q => absurd rfl q⟩⟩ (fun aa v h1 h2 => dB_ (us := Wk.cells (Wk.mk p cad ccap c1)) 1 Tryz.results34 aT_ Z_ rfl rfl rfl rfl aa v h1 h2) F_ (fun v _ h => by exact ⟨h.1, h.2.1, h.2.2.1, trivial⟩)
  · skip
    replace hr1 := aP_ hr1
    refine p_ rfl (h_ (d_ (a_ (aj_ dL_ rfl rfl) rfl (a_ (g_ rfl) rfl (R_ 1 Z_ rfl rfl rfl rfl rfl rfl (a_ (i_ rfl) rfl (e_ (c_ rfl (D_ ?_)))))))))
    exact dh_ ⟨((Wk.mk [] none 0 (Cl.mk [] none 0 [] none 0)), e1), ⟨c1, hA1, fun q => absurd q (by assumption), fun _ => rfl⟩⟩ (fun aa v h1 h2 => dB_ (us := Wk.cells (Wk.mk [] none 0 (Cl.mk [] none 0 [] none 0))) 1 Tryz.results34 aT_ Z_ rfl rfl rfl rfl aa v h1 h2) F_ (fun v _ h => by exact ⟨.inl rfl, .inl rfl, .inl rfl, trivial⟩)
theorem hD_ {K : Type} [DecidableEq K] {l q : List K} {i : Nat} {x : K} (h : ∀ f, f ∈ q ↔ f ∈ l.take i) (hx : l[i]? = some x) : ∀ f, f ∈ (if x ∈ q then q else q ++ [x]) ↔ f ∈ l.take (i + 1) := fun f => by
  rw [List.take_add_one, hx, Option.toList_some, List.mem_append, List.mem_singleton, ← h]
  split
  · rename_i hm
    exact ⟨.inl, fun q => q.elim id fun e => e ▸ hm⟩
  · rw [List.mem_append, List.mem_singleton]
def bm_ (l k : List Fc) : List Fc := l.filter fun f => !decide (f ∈ k)
theorem gx_ {l k : List Fc} {i : Nat} {x : Fc} (h : l[i]? = some x) : bm_ (l.take (i + 1)) k = bm_ (l.take i) k ++ (if x ∈ k then [] else [x]) := by
  unfold bm_
  rw [fI_ h]
  by_cases hx : x ∈ k <;> simp [hx]
theorem dl_ {l k q : List Fc} (h : ∀ f, f ∈ q ↔ f ∈ k) : bm_ l q = bm_ l k := by
  unfold bm_; congr 1; funext f; rw [Bool.eq_iff_iff]; simp [h]
theorem fp_ (l k : List Fc) : (bm_ l k).length ≤ l.length := List.length_filter_le _ _
theorem gQ_ {l k : List Fc} {f : Fc} : f ∈ bm_ l k ↔ f ∈ l ∧ f ∉ k := by simp [bm_, List.mem_filter]
theorem hW_ (c : Cl) (hf : c.facts.length ≤ 1000000000) : Tri Tryz.prog 82 #[Cl.val c] [] [ap_ (Cl.fad c) (List.flatMap Fc.cells (Cl.facts c))] (fun y : {y : Nat × Array MapEntry × Nat × List Fc // SetE Fc.val y.2.1 y.2.2.2 ∧ ∀ f, f ∈ y.2.2.2 ↔ f ∈ c.facts} => .map (some y.1.1)) (fun y => [(y.1.1, .map y.1.2.1 y.1.2.2.1)]) (fun _ => []) := by
  refine J_ Tryz.func82 rfl rfl Tryz.ntmps82 rfl fun v0 => ?_
  refine h_ (d_ (bd_ rfl rfl fun b1 => ?_))
  refine a_ (i_ rfl) rfl (e_ (c_ rfl (h_ (d_ (a_ (m_ as_ rfl rfl rfl bq_) rfl (a_ (t_ 0 bi_ rfl rfl rfl) rfl (a_ (ae_ L_ rfl) rfl (ky_ Tryz.runUnderlying122 rfl rfl fun b2 => ?_))))))))
  refine a_ (i_ rfl) rfl (e_ (c_ rfl (h_ (h_ (d_ (a_ (m_ as_ rfl rfl rfl bq_) rfl (a_ (t_ 1 bi_ rfl rfl rfl) rfl (a_ (ae_ L_ rfl) rfl (a_ (g_ rfl) rfl ?_)))))))))
  refine e_ (c_ rfl (K_ ?_))
  refine ax_ (ι := {y : Nat × Array MapEntry × Nat × List Fc // y.1 ≤ List.length (Cl.facts c) ∧ SetE Fc.val y.2.1 y.2.2.2 ∧ (∀ f, f ∈ y.2.2.2 ↔ f ∈ List.take y.1 (Cl.facts c))}) (fun y => [(1, zp_ b1 0), (2, .map (some b2)), (10, .slice (Cl.fad c) (List.length (Cl.facts c)) (Cl.fcap c)), (11, .int .i64 (List.length (Cl.facts c) : Int)), (12, .int .i64 (y.1.1 : Int))]) (fun y => ((b2, .map y.1.2.1 y.1.2.2.1) :: ((b1, .cells (Cl.cells c).toArray 28 (0, 0)) :: []))) (fun y => [ap_ (Cl.fad c) (List.flatMap Fc.cells (Cl.facts c))]) (fun y => List.length (Cl.facts c) - y.1.1) ⟨((0 : Nat), #[], 0, ([] : List Fc)), by simp, SetE.nil, by simp⟩ ⟨rfl, rfl, rfl, rfl, rfl, trivial⟩ (j_ f_ f_) (fun _ _ h => h) ?_
  rintro ⟨⟨i, es, ce, q⟩, hi, hE, hq⟩
  dsimp only at hi hE hq ⊢
  refine h_ (d_ (x_ (ar_ rfl rfl) rfl fun r1 hr1 => ?_))
  refine e_ (c_ rfl (h_ ?_))
  cases r1
  · skip
    replace hr1 := of_decide_eq_false hr1
    refine s_ rfl (au_ rfl (c_ rfl (h_ (d_ (a_ (g_ rfl) rfl (a_ (i_ rfl) rfl (e_ (c_ rfl (D_ ?_)))))))))
    rw [List.take_of_length_le (by omega)] at hq
    exact aA_ Tryz.results82 ⟨(b2, es, ce, q), hE, hq⟩ rfl f_ (fun _ _ _ => trivial)
  · skip
    replace hr1 := of_decide_eq_true hr1
    have hlx1 : i < List.length (Cl.facts c) := by omega
    obtain ⟨x1, hx1⟩ : ∃ e0, (Cl.facts c)[i]? = some e0 := ⟨_, List.getElem?_eq_getElem hlx1⟩
    have hmx1 : x1 ∈ (Cl.facts c) := List.mem_of_getElem? hx1
    refine p_ rfl (B_ (c_ rfl (h_ (K_ (h_ (d_ (a_ (al_ L_ G_ rfl rfl (fun v _ h => aG_ (n := 6) Fc.cells_len (by decide) (by exact h.1) hx1) (by omega) (by first | omega | (simp; done))) rfl (a_ (aK_ (ad := (Cl.fad c)) (us := Fc.cells x1) ac_ G_ rfl (fun v _ h => by exact h.1) (Fc.cells_len _) (ao_ Fc.cells_len hx1)) rfl (ah_ bb_ rfl fun b3 => ?_)))))))))
    refine R_ 0 G_ rfl rfl rfl rfl rfl rfl (e_ (c_ rfl (d_ (a_ (g_ rfl) rfl (a_ (X_ 0 ac_ G_ rfl rfl rfl) rfl (ey_ (k := x1) 1 fk_ (.inr rfl) Tryz.runUnderlying122 rfl rfl rfl rfl hE fun ej1 cj1 hj1 => ?_))))))
    refine e_ (c_ rfl (d_ (a_ (P_ rfl rfl rfl (an_ (by omega) (by omega))) rfl (a_ (g_ rfl) rfl (e_ (v_ rfl ?_))))))
    exact ai_ ⟨(i + 1, ej1, cj1, (if x1 ∈ q then q else q ++ [x1])), hlx1, hj1, hD_ hq hx1⟩ (by dsimp only; omega) ⟨rfl, rfl, rfl, rfl, rfl, trivial⟩ (j_ (b_ f_) (b_ f_)) (fun _ _ h => h)
theorem fhas_c (mb : Nat) (es : Array MapEntry) (ce : Nat) (q : List Fc) (hE : SetE Fc.val es q) (f : Fc) : Tri Tryz.prog 84 #[.map (some mb), Fc.val f] [(mb, .map es ce)] [] (fun _ : Unit => .bool (decide (f ∈ q))) (fun _ => [(mb, .map es ce)]) (fun _ => []) := by
  refine J_ Tryz.func84 rfl rfl Tryz.ntmps84 rfl fun v0 => ?_
  refine h_ (d_ (bd_ rfl rfl fun b1 => ?_))
  refine a_ (i_ rfl) rfl (e_ (c_ rfl (h_ (d_ (a_ (g_ rfl) rfl (a_ (X_ 0 ac_ G_ rfl rfl rfl) rfl (x_ (dq_ (k := f) fk_ Tryz.runUnderlying122 cM_ rfl rfl hE (fun v h _ => (h.own _ (List.mem_of_getElem? (i := 1) rfl)).1)) rfl fun r1 hr1 => ?_)))))))
  refine a_ (i_ rfl) rfl (e_ (c_ rfl (D_ ?_)))
  exact aA_ Tryz.results84 () (I_ rfl hr1.symm) (b_ f_) (fun _ _ _ => trivial)
theorem fo_ (l : List Fc) (lad : Option Addr) (lcap : Nat) (mb : Nat) (es : Array MapEntry) (ce : Nat) (q : List Fc) (hE : SetE Fc.val es q) (hl : l.length ≤ 1000000000) : Tri Tryz.prog 83 #[.slice lad (List.length l) lcap, (.func (.func 84) #[.map (some mb)] #[])] [(mb, .map es ce)] [ap_ lad (List.flatMap Fc.cells l)] (fun y : {y : Option Addr × Nat // ((bm_ l q)).length ≤ y.2 ∧ y.2 ≤ maxLen ∧ (y.1 = none → y.2 = 0)} => .slice y.1.1 ((bm_ l q)).length y.1.2) (fun _ => [(mb, .map es ce)]) (fun y => [ap_ y.1.1 (((bm_ l q)).flatMap Fc.cells)]) := by
 refine J_ Tryz.func83 rfl rfl Tryz.ntmps83 rfl fun v0 => ?_
 refine h_ (d_ (a_ (i_ rfl) rfl (e_ (c_ rfl (ir_ (h_ (is_ (c_ rfl (h_ ?_)))))))))
 refine h_ (d_ (a_ (g_ rfl) rfl (a_ (ae_ L_ rfl) rfl (a_ (g_ rfl) rfl (e_ (c_ rfl (K_ ?_)))))))
 refine ax_ (ι := {y : Nat × Value × Hp // y.1 ≤ List.length l ∧ aS_ 41 6 y.2.1 (List.length (bm_ (List.take y.1 l) q)) (List.flatMap Fc.cells (bm_ (List.take y.1 l) q)) y.2.2}) (fun y => [(0, .slice lad (List.length l) lcap), (1, (.func (.func 84) #[.map (some mb)] #[])), (4, y.1.2.1), (7, .slice lad (List.length l) lcap), (8, .int .i64 (List.length l : Int)), (9, .int .i64 (y.1.1 : Int))]) (fun y => ((mb, .map es ce) :: y.1.2.2)) (fun y => [ap_ lad (List.flatMap Fc.cells l)]) (fun y => List.length l - y.1.1) ⟨((0 : Nat), (.slice none 0 0), []), by simp, (aS_.nil _ _)⟩ ⟨rfl, rfl, rfl, rfl, rfl, rfl, trivial⟩ f_ (fun _ _ h => h) ?_
 rintro ⟨⟨i, sv_Rfc, H_Rfc⟩, hi, hr_Rfc⟩
 dsimp only at hi hr_Rfc ⊢
 have hel := fp_ (List.take i l) q
 rw [List.length_take] at hel
 refine h_ (d_ (x_ (ar_ rfl rfl) rfl fun r1 hr1 => ?_))
 refine e_ (c_ rfl (h_ ?_))
 cases r1
 ·
  replace hr1 := of_decide_eq_false hr1
  refine s_ rfl (au_ rfl (c_ rfl (h_ (d_ (a_ (g_ rfl) rfl (a_ (i_ rfl) rfl (e_ (c_ rfl (D_ ?_)))))))))
  have e9 : (bm_ (List.take i l) q) = bm_ l q := by rw [List.take_of_length_le (by omega)]
  have hw1 : aS_ 41 6 sv_Rfc (List.length (bm_ l q)) (List.flatMap Fc.cells (bm_ l q)) H_Rfc := by have q9 := hr_Rfc; rw [e9] at q9; exact q9
  refine cj_ hw1 S_ fun ad2 cp2 had2 hcad2 hmad2 hzad2 => ?_
  exact aA_ Tryz.results83 ⟨(ad2, cp2), hcad2, hmad2, hzad2⟩ (eU_ rfl had2) f_ (fun v _ h => ⟨h.1, trivial⟩)
 ·
  replace hr1 := of_decide_eq_true hr1
  have hlx1 : i < List.length l := by omega
  obtain ⟨x1, hx1⟩ : ∃ e0, l[i]? = some e0 := ⟨_, List.getElem?_eq_getElem hlx1⟩
  have hmx1 : x1 ∈ l := List.mem_of_getElem? hx1
  refine p_ rfl (B_ (c_ rfl (h_ (K_ (h_ (d_ (a_ (al_ L_ G_ rfl rfl (fun v _ h => aG_ (n := 6) Fc.cells_len (by decide) (by exact h.1) hx1) (by omega) (by first | omega | (simp; done))) rfl (a_ (aK_ (ad := lad) (us := Fc.cells x1) ac_ G_ rfl (fun v _ h => by exact h.1) (Fc.cells_len _) (ao_ Fc.cells_len hx1)) rfl (ah_ bb_ rfl fun b1 => ?_)))))))))
  refine R_ 0 G_ rfl rfl rfl rfl rfl rfl (e_ (c_ rfl (h_ (h_ (d_ (a_ (g_ rfl) rfl (a_ (X_ 0 ac_ G_ rfl rfl rfl) rfl (bH_ (first := [.map (some mb)]) (cap := []) (fhas_c mb es ce q hE x1) rfl rfl (b_ f_) (fun _ _ _ => by exact trivial) rfl fun r2 hr2 => ?_))))))))
  refine e_ (c_ rfl ?_)
  cases r2
  ·
   replace hr2 := dF hr2
   refine s_ rfl (B_ (c_ rfl (d_ (a_ (g_ rfl) rfl (a_ (X_ 1 ac_ G_ rfl rfl rfl) rfl (aY_ L_ G_ bb_ rfl rfl rfl rfl rfl rfl fun b2 => ?_))))))
   refine aU_ (news := List.flatMap Fc.cells [x1]) jb_ hr_Rfc rfl rfl (b_ (b_ S_)) rfl (cn_ 0 rfl) (fun u hu => bg_ Fc.cells_one hu) (by simp only [maxLen]; ((try simp only [List.length_append, List.length_cons, List.length_nil]); omega)) (by ((try simp only [List.length_append, List.length_cons, List.length_nil]); omega)) rfl fun sv2 Hr2 hr2 => ?_
   refine ay_ List.perm_append_comm ?_
   have hq2 : aS_ 41 6 sv2 (List.length ((bm_ (List.take i l) q) ++ [x1])) (List.flatMap Fc.cells ((bm_ (List.take i l) q) ++ [x1])) Hr2 := by rw [List.length_append, List.flatMap_append]; exact hr2
   refine a_ (i_ rfl) rfl (e_ (c_ rfl (d_ (a_ (P_ rfl rfl rfl (an_ (by omega) (by omega))) rfl (a_ (g_ rfl) rfl (e_ (v_ rfl ?_)))))))
   exact ai_ ⟨(i + 1, sv2, Hr2), hlx1, (by rw [gx_ hx1, if_neg (by assumption)]; exact hq2)⟩ (by dsimp only; omega) ⟨rfl, rfl, rfl, rfl, rfl, rfl, trivial⟩ (j_ (b_ f_) (b_ S_)) (fun _ _ h => h)
  ·
   replace hr2 := dT hr2
   refine p_ rfl (au_ rfl (c_ rfl (d_ (a_ (P_ rfl rfl rfl (an_ (by omega) (by omega))) rfl (a_ (g_ rfl) rfl (e_ (v_ rfl ?_)))))))
   exact ai_ ⟨(i + 1, sv_Rfc, H_Rfc), hlx1, (by rw [gx_ hx1, if_pos (by assumption), List.append_nil]; exact hr_Rfc)⟩ (by dsimp only; omega) ⟨rfl, rfl, rfl, rfl, rfl, rfl, trivial⟩ (j_ f_ S_) (fun _ _ h => h)
end Go.Proofs.YtpdbbglpbngeiaaGreatDoor
namespace Go.Proofs.YtpdbbglpbngeiaaGreatDoor
open Go Go.Sx Go.Proofs
attribute [local irreducible] Code.wp wpList wpAnyH
open Go.Vs
structure PL where
  l : List Pc
  ad : Option Addr
  cap : Nat
def PL.cells (x : PL) : List Value := [.slice x.ad x.l.length x.cap]
theorem PL.cells_len (x : PL) : x.cells.length = 1 := rfl
structure PL.ok (x : PL) : Prop where
  le : x.l.length ≤ x.cap
  nz : x.ad = none → x.cap = 0
  sh : x.l.length ≤ 100000
def plF (xs : List PL) : Fct where
  p v := ∀ x ∈ xs, bD_ v x.ad (List.flatMap Pc.cells x.l)
  mono := fun v v' h hp x hx => (ap_ x.ad (List.flatMap Pc.cells x.l)).mono v v' h (hp x hx)
def dR_ (xs : List PL) : List Pc := List.flatMap PL.l xs
theorem kw_ {xs : List PL} {i : Nat} {x : PL} (h : xs[i]? = some x) : dR_ (xs.take (i + 1)) = dR_ (xs.take i) ++ x.l := of_ h
theorem lK_ {xs : List PL} (h : ∀ x ∈ xs, x.ok) (i : Nat) : (dR_ (xs.take i)).length ≤ min i xs.length * 100000 := by
  have := oC_ (g := PL.l) (n := 100000) (xs.take i) fun x hx => (h x (List.mem_of_mem_take hx)).sh
  rwa [List.length_take] at this
theorem eqS_c (l m : List Str) (ad ae : Option Addr) (cap cpe : Nat) (hl : l.length ≤ 1000000000000) (hm : m.length ≤ 1000000000000) : Tri Tryz.prog 128 #[.slice ad (List.length l) cap, .slice ae (List.length m) cpe] [] [ap_ ad (List.flatMap aL_ l), ap_ ae (List.flatMap aL_ m)] (fun _ : Unit => .bool (decide (l = m))) (fun _ => []) (fun _ => []) := by
 refine J_ Tryz.func128 rfl rfl Tryz.ntmps128 rfl fun v0 => ?_
 refine h_ (d_ (a_ (i_ rfl) rfl (e_ (c_ rfl (h_ (h_ (d_ (a_ (g_ rfl) rfl (a_ (ae_ H_ rfl) rfl ?_)))))))))
 refine a_ (g_ rfl) rfl (a_ (ae_ H_ rfl) rfl (x_ (bC_ rfl rfl) rfl fun r1 hr1 => ?_))
 refine e_ (c_ rfl ?_)
 cases r1
 ·
  replace hr1 := aQ_ hr1
  refine s_ rfl (B_ (c_ rfl (h_ (h_ (d_ (a_ (g_ rfl) rfl (a_ (ae_ H_ rfl) rfl (a_ (g_ rfl) rfl (e_ ?_)))))))))
  refine c_ rfl (K_ ?_)
  have hlm : List.length l = List.length m := by omega
  refine ax_ (ι := {y : Nat // y ≤ List.length l ∧ List.take y l = List.take y m}) (fun y => [(0, .slice ad (List.length l) cap), (1, .slice ae (List.length m) cpe), (12, .int .i64 (List.length l : Int)), (13, .int .i64 (y.1 : Int))]) (fun y => ([])) (fun y => [ap_ ad (List.flatMap aL_ l), ap_ ae (List.flatMap aL_ m)]) (fun y => List.length l - y.1) ⟨(0 : Nat), by simp, by simp⟩ ⟨rfl, rfl, rfl, rfl, trivial⟩ F_ (fun _ _ h => h) ?_
  rintro ⟨i, hi, he⟩
  dsimp only at hi he ⊢
  refine h_ (d_ (x_ (ar_ rfl rfl) rfl fun r2 hr2 => ?_))
  refine e_ (c_ rfl (h_ ?_))
  cases r2
  ·
   replace hr2 := of_decide_eq_false hr2
   refine s_ rfl (au_ rfl (c_ rfl (h_ (d_ (a_ (i_ rfl) rfl (e_ (c_ rfl (D_ ?_))))))))
   exact aA_ Tryz.results128 () (I_ rfl (by symm; apply decide_eq_true; rwa [List.take_of_length_le (by omega), List.take_of_length_le (by omega)] at he)) F_ (fun _ _ _ => trivial)
  ·
   replace hr2 := of_decide_eq_true hr2
   have hlx1 : i < List.length l := by omega
   obtain ⟨x1, hx1⟩ : ∃ e0, l[i]? = some e0 := ⟨_, List.getElem?_eq_getElem hlx1⟩
   have hmx1 : x1 ∈ l := List.mem_of_getElem? hx1
   have hlx2 : i < List.length m := by omega
   obtain ⟨x2, hx2⟩ : ∃ e0, m[i]? = some e0 := ⟨_, List.getElem?_eq_getElem hlx2⟩
   have hmx2 : x2 ∈ m := List.mem_of_getElem? hx2
   refine p_ rfl (B_ (c_ rfl (h_ (K_ (h_ (d_ (a_ (g_ rfl) rfl (a_ (i_ rfl) rfl (e_ ?_)))))))))
   refine c_ rfl (h_ ?_)
   refine az_ (by kernel_rfl) ?_
   refine ag_ 0 [0, 1, 2, 3, 4, 5, 6, 7, 8] (by kernel_rfl) (fun _ a b => ⟨dg_ a, b⟩) (l_ rfl (g_ rfl) rfl (l_ rfl (g_ rfl) rfl (l_ rfl (al_ H_ o_ rfl rfl (fun v _ h => aG_ (n := 1) ba_ (by decide) (by exact h.1) hx1) (by omega) (by first | omega | (simp; done))) rfl (l_ rfl (bu_ (ad := ad) u_ rfl (fun v _ h => by exact h.1) (ao_ ba_ hx1 0 _ rfl)) rfl (l_ rfl (g_ rfl) rfl (l_ rfl (g_ rfl) rfl (l_ rfl (al_ H_ o_ rfl rfl (fun v _ h => aG_ (n := 1) ba_ (by decide) (by exact h.2.1) hx2) (by omega) (by first | omega | (simp; done))) rfl (l_ rfl (bu_ (ad := ae) u_ rfl (fun v _ h => by exact h.2.1) (ao_ ba_ hx2 0 _ rfl)) rfl ?_))))))))
   refine cq_ rfl (dI_ rfl rfl) rfl fun r3 hr3 => ?_
   refine af_ (Y_ (by kernel_rfl) (c_ rfl ?_))
   cases r3
   ·
    replace hr3 := aQ_ hr3
    refine s_ rfl (B_ (c_ rfl (d_ (a_ (P_ rfl rfl rfl (an_ (by omega) (by omega))) rfl (a_ (g_ rfl) rfl (e_ (v_ rfl ?_)))))))
    exact ai_ ⟨i + 1, hlx1, by rw [List.take_add_one, hx1, List.take_add_one, hx2, he]; simp_all⟩ (by dsimp only; omega) ⟨rfl, rfl, rfl, rfl, trivial⟩ F_ (fun _ _ h => h)
   ·
    replace hr3 := aP_ hr3
    refine p_ rfl (h_ (d_ (a_ (i_ rfl) rfl (e_ (c_ rfl (D_ ?_))))))
    exact aA_ Tryz.results128 () (I_ rfl (by symm; apply decide_eq_false; intro e; subst e; rw [hx1] at hx2; simp_all)) F_ (fun _ _ _ => trivial)
 ·
  replace hr1 := aP_ hr1
  refine p_ rfl (h_ (d_ (a_ (i_ rfl) rfl (e_ (c_ rfl (D_ ?_))))))
  exact aA_ Tryz.results128 () (I_ rfl (by symm; apply decide_eq_false; intro e; subst e; omega)) F_ (fun _ _ _ => trivial)
theorem eqF_c (l m : List Fc) (ad ae : Option Addr) (cap cpe : Nat) (hl : l.length ≤ 1000000000000) (hm : m.length ≤ 1000000000000) : Tri Tryz.prog 129 #[.slice ad (List.length l) cap, .slice ae (List.length m) cpe] [] [ap_ ad (List.flatMap Fc.cells l), ap_ ae (List.flatMap Fc.cells m)] (fun _ : Unit => .bool (decide (l = m))) (fun _ => []) (fun _ => []) := by
 refine J_ Tryz.func129 rfl rfl Tryz.ntmps129 rfl fun v0 => ?_
 refine h_ (d_ (a_ (i_ rfl) rfl (e_ (c_ rfl (h_ (h_ (d_ (a_ (g_ rfl) rfl (a_ (ae_ L_ rfl) rfl ?_)))))))))
 refine a_ (g_ rfl) rfl (a_ (ae_ L_ rfl) rfl (x_ (bC_ rfl rfl) rfl fun r1 hr1 => ?_))
 refine e_ (c_ rfl ?_)
 cases r1
 ·
  replace hr1 := aQ_ hr1
  refine s_ rfl (B_ (c_ rfl (h_ (h_ (d_ (a_ (g_ rfl) rfl (a_ (ae_ L_ rfl) rfl (a_ (g_ rfl) rfl (e_ ?_)))))))))
  refine c_ rfl (K_ ?_)
  have hlm : List.length l = List.length m := by omega
  refine ax_ (ι := {y : Nat // y ≤ List.length l ∧ List.take y l = List.take y m}) (fun y => [(0, .slice ad (List.length l) cap), (1, .slice ae (List.length m) cpe), (12, .int .i64 (List.length l : Int)), (13, .int .i64 (y.1 : Int))]) (fun y => ([])) (fun y => [ap_ ad (List.flatMap Fc.cells l), ap_ ae (List.flatMap Fc.cells m)]) (fun y => List.length l - y.1) ⟨(0 : Nat), by simp, by simp⟩ ⟨rfl, rfl, rfl, rfl, trivial⟩ F_ (fun _ _ h => h) ?_
  rintro ⟨i, hi, he⟩
  dsimp only at hi he ⊢
  refine h_ (d_ (x_ (ar_ rfl rfl) rfl fun r2 hr2 => ?_))
  refine e_ (c_ rfl (h_ ?_))
  cases r2
  ·
   replace hr2 := of_decide_eq_false hr2
   refine s_ rfl (au_ rfl (c_ rfl (h_ (d_ (a_ (i_ rfl) rfl (e_ (c_ rfl (D_ ?_))))))))
   exact aA_ Tryz.results129 () (I_ rfl (by symm; apply decide_eq_true; rwa [List.take_of_length_le (by omega), List.take_of_length_le (by omega)] at he)) F_ (fun _ _ _ => trivial)
  ·
   replace hr2 := of_decide_eq_true hr2
   have hlx1 : i < List.length l := by omega
   obtain ⟨x1, hx1⟩ : ∃ e0, l[i]? = some e0 := ⟨_, List.getElem?_eq_getElem hlx1⟩
   have hmx1 : x1 ∈ l := List.mem_of_getElem? hx1
   have hlx2 : i < List.length m := by omega
   obtain ⟨x2, hx2⟩ : ∃ e0, m[i]? = some e0 := ⟨_, List.getElem?_eq_getElem hlx2⟩
   have hmx2 : x2 ∈ m := List.mem_of_getElem? hx2
   refine p_ rfl (B_ (c_ rfl (h_ (K_ (h_ (d_ (a_ (g_ rfl) rfl (a_ (i_ rfl) rfl (e_ ?_)))))))))
   refine c_ rfl (h_ ?_)
   refine az_ (by kernel_rfl) ?_
   refine ag_ 0 [0, 1, 2, 3, 4, 5, 6, 7, 8] (by kernel_rfl) (fun _ a b => ⟨dg_ a, b⟩) (l_ rfl (g_ rfl) rfl (l_ rfl (g_ rfl) rfl (l_ rfl (al_ L_ G_ rfl rfl (fun v _ h => aG_ (n := 6) Fc.cells_len (by decide) (by exact h.1) hx1) (by omega) (by first | omega | (simp; done))) rfl (l_ rfl (aK_ (ad := ad) (us := Fc.cells x1) ac_ G_ rfl (fun v _ h => by exact h.1) (Fc.cells_len _) (ao_ Fc.cells_len hx1)) rfl (l_ rfl (g_ rfl) rfl (l_ rfl (g_ rfl) rfl (l_ rfl (al_ L_ G_ rfl rfl (fun v _ h => aG_ (n := 6) Fc.cells_len (by decide) (by exact h.2.1) hx2) (by omega) (by first | omega | (simp; done))) rfl (l_ rfl (aK_ (ad := ae) (us := Fc.cells x2) ac_ G_ rfl (fun v _ h => by exact h.2.1) (Fc.cells_len _) (ao_ Fc.cells_len hx2)) rfl ?_))))))))
   refine cq_ rfl (dU_ (p := x1) (q := x2) rfl rfl) rfl fun r3 hr3 => ?_
   refine af_ (Y_ (by kernel_rfl) (c_ rfl ?_))
   cases r3
   ·
    replace hr3 := of_decide_eq_false hr3
    refine s_ rfl (B_ (c_ rfl (d_ (a_ (P_ rfl rfl rfl (an_ (by omega) (by omega))) rfl (a_ (g_ rfl) rfl (e_ (v_ rfl ?_)))))))
    exact ai_ ⟨i + 1, hlx1, by rw [List.take_add_one, hx1, List.take_add_one, hx2, he]; simp_all⟩ (by dsimp only; omega) ⟨rfl, rfl, rfl, rfl, trivial⟩ F_ (fun _ _ h => h)
   ·
    replace hr3 := of_decide_eq_true hr3
    refine p_ rfl (h_ (d_ (a_ (i_ rfl) rfl (e_ (c_ rfl (D_ ?_))))))
    exact aA_ Tryz.results129 () (I_ rfl (by symm; apply decide_eq_false; intro e; subst e; rw [hx1] at hx2; simp_all)) F_ (fun _ _ _ => trivial)
 ·
  replace hr1 := aP_ hr1
  refine p_ rfl (h_ (d_ (a_ (i_ rfl) rfl (e_ (c_ rfl (D_ ?_))))))
  exact aA_ Tryz.results129 () (I_ rfl (by symm; apply decide_eq_false; intro e; subst e; omega)) F_ (fun _ _ _ => trivial)
theorem mC_ (c d : Cl) (h1 : c.atoms.length ≤ 1000000000000) (h2 : c.facts.length ≤ 1000000000000) (h3 : d.atoms.length ≤ 1000000000000) (h4 : d.facts.length ≤ 1000000000000) : Tri Tryz.prog 79 #[Cl.val c, Cl.val d] [] [ap_ (Cl.aad c) (List.flatMap aL_ (Cl.atoms c)), ap_ (Cl.fad c) (List.flatMap Fc.cells (Cl.facts c)), ap_ (Cl.aad d) (List.flatMap aL_ (Cl.atoms d)), ap_ (Cl.fad d) (List.flatMap Fc.cells (Cl.facts d))] (fun _ : Unit => .bool (decide (c.atoms = d.atoms) && decide (c.facts = d.facts))) (fun _ => []) (fun _ => []) := by
  refine J_ Tryz.func79 rfl rfl Tryz.ntmps79 rfl fun v0 => ?_
  refine h_ (d_ (bd_ rfl rfl fun b1 => ?_))
  refine bd_ rfl rfl fun b2 => ?_
  refine a_ (i_ rfl) rfl (e_ (c_ rfl (h_ (d_ (a_ (m_ as_ rfl rfl rfl cB_) rfl (a_ (t_ 1 gV_ rfl rfl rfl) rfl (a_ (m_ as_ rfl rfl rfl cB_) rfl (a_ (t_ 0 gV_ rfl rfl rfl) rfl (aI_ (eqS_c (Cl.atoms c) (Cl.atoms d) (Cl.aad c) (Cl.aad d) (Cl.acap c) (Cl.acap d) (by omega) (by omega)) rfl F_ (fun v _ h => by exact ⟨h.1, h.2.2.1, trivial⟩) rfl fun r1 hr1 => ?_)))))))))
  refine a_ (g_ rfl) rfl ?_
  cases r1
  · skip
    replace hr1 := of_decide_eq_false hr1
    refine y_ rfl rfl rfl rfl (y_ rfl rfl rfl rfl (y_ rfl rfl rfl rfl (y_ rfl rfl rfl rfl (y_ rfl rfl rfl rfl (a_ (M_ rfl rfl) rfl (a_ (i_ rfl) rfl (e_ (c_ rfl (D_ ?_)))))))))
    exact aA_ Tryz.results79 () (I_ rfl (by have p1 := eq_false hr1; simp only [p1, if_true, if_false, decide_true, decide_false, Bool.and_true, Bool.and_false, Bool.true_and, Bool.false_and, Bool.or_true, Bool.or_false, Bool.true_or, Bool.false_or, Bool.not_true, Bool.not_false, ne_eq, not_true_eq_false, not_false_eq_true, true_and, and_true, false_and, and_false, true_or, or_true, false_or, or_false, ite_true, ite_false, Bool.false_eq_true])) F_ (fun _ _ _ => trivial)
  · skip
    replace hr1 := of_decide_eq_true hr1
    refine r_ rfl rfl (a_ (m_ as_ rfl rfl rfl bq_) rfl (r_ rfl rfl (a_ (t_ 1 bi_ rfl rfl rfl) rfl (r_ rfl rfl (a_ (m_ as_ rfl rfl rfl bq_) rfl (r_ rfl rfl (a_ (t_ 0 bi_ rfl rfl rfl) rfl (r_ rfl rfl (aI_ (eqF_c (Cl.facts c) (Cl.facts d) (Cl.fad c) (Cl.fad d) (Cl.fcap c) (Cl.fcap d) (by omega) (by omega)) rfl F_ (fun v _ h => by exact ⟨h.2.1, h.2.2.2.1, trivial⟩) rfl fun r2 hr2 => ?_)))))))))
    refine a_ (W_ rfl rfl) rfl (a_ (i_ rfl) rfl (e_ (c_ rfl (D_ ?_))))
    exact aA_ Tryz.results79 () (I_ rfl (by have p1 := eq_true hr1; rw [← hr2]; simp only [p1, if_true, if_false, decide_true, decide_false, Bool.and_true, Bool.and_false, Bool.true_and, Bool.false_and, Bool.or_true, Bool.or_false, Bool.true_or, Bool.false_or, Bool.not_true, Bool.not_false, ne_eq, not_true_eq_false, not_false_eq_true, true_and, and_true, false_and, and_false, true_or, or_true, false_or, or_false, ite_true, ite_false, Bool.false_eq_true])) F_ (fun _ _ _ => trivial)
def ic_ (w : Wk) (e : Int) : Prop := if br_ w.ps ≠ 0 then e = br_ w.ps else ∃ c e1, cv_ w.ps 1073741824 c e1 ∧ e = if e1 = 0 ∧ c.atoms = w.cl.atoms ∧ c.facts = w.cl.facts then 0 else 1
theorem ic_.uniq {w : Wk} {e f : Int} (h : ic_ w e) (k : ic_ w f) : e = f := by
  unfold ic_ at h k
  split at h
  · rename_i h1; rw [if_pos h1] at k; rw [h, k]
  · rename_i h1
    rw [if_neg h1] at k
    obtain ⟨c, e1, a1, b1⟩ := h
    obtain ⟨d, e2, a2, b2⟩ := k
    obtain ⟨q1, q2, q3⟩ := mk_ a1 a2
    rw [b1, b2, q1, q2, q3]
theorem chkW_c (w : Wk) (hsm : ∀ x ∈ w.ps, x.sm) (hp : w.ps.length ≤ 100000000) (h3 : w.cl.atoms.length ≤ 1000000000000) (h4 : w.cl.facts.length ≤ 1000000000000) : Tri Tryz.prog 37 #[Wk.val w] [] [ap_ (Wk.pad w) (List.flatMap Pc.cells (Wk.ps w)), ap_ (Cl.aad (Wk.cl w)) (List.flatMap aL_ (Cl.atoms (Wk.cl w))), ap_ (Cl.fad (Wk.cl w)) (List.flatMap Fc.cells (Cl.facts (Wk.cl w))), eu_] (fun e : {e : Int // ic_ w e} => .int .i64 e.1) (fun _ => []) (fun _ => []) := by
  refine J_ Tryz.func37 rfl rfl Tryz.ntmps37 rfl fun v0 => ?_
  refine h_ (d_ (bd_ rfl rfl fun b1 => ?_))
  refine a_ (i_ rfl) rfl (e_ (c_ rfl (h_ (h_ (d_ (a_ (m_ aE_ rfl rfl rfl bZ_) rfl (a_ (t_ 0 cQ_ rfl rfl rfl) rfl (aa_ (jc_ (Wk.ps w) (Wk.pad w) (Wk.pcap w) (by omega) hsm) rfl F_ (fun v _ h => by exact ⟨h.1, h.2.2.2.1, trivial⟩) rfl fun _ => ?_))))))))
  refine a_ (i_ rfl) rfl (e_ (c_ rfl (h_ (d_ (a_ (g_ rfl) rfl (x_ (bC_ rfl rfl) rfl fun r1 hr1 => ?_))))))
  refine e_ (c_ rfl ?_)
  cases r1
  · skip
    replace hr1 := aQ_ hr1
    have hckw := hr1
    refine s_ rfl (B_ (c_ rfl (h_ (d_ (a_ (m_ aE_ rfl rfl rfl bZ_) rfl (a_ (t_ 0 cQ_ rfl rfl rfl) rfl (aa_ (lo_ (Wk.ps w) (Wk.pad w) (Wk.pcap w) 1073741824 hsm (by omega)) rfl F_ (fun v _ h => by exact ⟨h.1, h.2.2.2.1, trivial⟩) rfl fun ⟨⟨c1, e1⟩, hA1⟩ => ?_)))))))
    dsimp only
    dsimp only at hA1
    refine a_ (g_ rfl) rfl (a_ (V_ rfl rfl) rfl (a_ (V_ rfl rfl) rfl (ah_ fQ_ rfl fun b2 => ?_)))
    refine R_ 0 ad_ rfl rfl rfl rfl rfl rfl (a_ (i_ rfl) rfl (e_ (c_ rfl (h_ (h_ (d_ (a_ (g_ rfl) rfl (x_ (bC_ rfl rfl) rfl fun r2 hr2 => ?_))))))))
    refine a_ (g_ rfl) rfl ?_
    cases r2
    · skip
      replace hr2 := aQ_ hr2
      refine r_ rfl rfl (a_ (X_ 0 bp_ ad_ rfl rfl rfl) rfl (r_ rfl rfl (a_ (m_ aE_ rfl rfl rfl ad_) rfl (r_ rfl rfl (a_ (X_ 1 bp_ ad_ rfl rfl rfl) rfl (r_ rfl rfl (aI_ (mC_ c1 (Wk.cl w) (by have := hA1.len; omega) (by have := hA1.len; omega) (by omega) (by omega)) rfl F_ (fun v _ h => by exact ⟨h.1, h.2.1, h.2.2.2.1, h.2.2.2.2.1, trivial⟩) rfl fun r3 hr3 => ?_)))))))
      refine r_ rfl rfl (a_ (bS_ rfl) rfl (a_ (M_ rfl rfl) rfl (e_ (c_ rfl ?_))))
      cases r3
      · skip
        simp at hr3
        refine p_ rfl (h_ (d_ (a_ (i_ rfl) rfl (e_ (c_ rfl (D_ ?_))))))
        exact aA_ Tryz.results37 ⟨1, by unfold ic_; rw [if_neg (fun q => q hckw)]; exact ⟨c1, e1, hA1, by rw [if_neg (fun q => by first | exact absurd q.1 (by assumption) | (have := q.2; simp_all))]⟩⟩ rfl F_ (fun _ _ _ => trivial)
      · skip
        simp at hr3
        refine s_ rfl (B_ (c_ rfl (h_ (d_ (a_ (i_ rfl) rfl (e_ (c_ rfl (D_ ?_))))))))
        exact aA_ Tryz.results37 ⟨0, by unfold ic_; rw [if_neg (fun q => q hckw)]; exact ⟨c1, e1, hA1, by rw [if_pos ⟨by assumption, by simpa using hr3⟩]⟩⟩ rfl F_ (fun _ _ _ => trivial)
    · skip
      replace hr2 := aP_ hr2
      refine y_ rfl rfl rfl rfl (y_ rfl rfl rfl rfl (y_ rfl rfl rfl rfl (y_ rfl rfl rfl rfl (y_ rfl rfl rfl rfl (a_ (W_ rfl rfl) rfl (e_ (c_ rfl (p_ rfl (h_ ?_)))))))))
      refine d_ (a_ (i_ rfl) rfl (e_ (c_ rfl (D_ ?_))))
      exact aA_ Tryz.results37 ⟨1, by unfold ic_; rw [if_neg (fun q => q hckw)]; exact ⟨c1, e1, hA1, by rw [if_neg (fun q => by first | exact absurd q.1 (by assumption) | (have := q.2; simp_all))]⟩⟩ rfl F_ (fun _ _ _ => trivial)
  · skip
    replace hr1 := aP_ hr1
    refine p_ rfl (h_ (d_ (a_ (g_ rfl) rfl (a_ (i_ rfl) rfl (e_ (c_ rfl (D_ ?_)))))))
    exact aA_ Tryz.results37 ⟨(br_ (Wk.ps w)), by unfold ic_; rw [if_pos (by assumption)]⟩ rfl F_ (fun _ _ _ => trivial)
theorem oe_ (n : Nat) (hn : n ≤ 1000000000) : Tri Tryz.prog 130 #[.slice none 0 0, .int .i64 (n : Int)] [] [] (fun y : {y : Value × Hp // aS_ 47 10 y.1 0 [] y.2} => y.1.1) (fun y => y.1.2) (fun _ => []) := by
  refine J_ Tryz.func130 rfl rfl Tryz.ntmps130 rfl fun v0 => ?_
  refine h_ (d_ (a_ (i_ rfl) rfl (e_ (c_ rfl (h_ (h_ (d_ (a_ (g_ rfl) rfl (x_ (ar_ rfl rfl) rfl fun r1 hr1 => ?_)))))))))
  refine e_ (c_ rfl ?_)
  cases r1
  · skip
    replace hr1 := of_decide_eq_false hr1
    refine s_ rfl (B_ (c_ rfl (h_ (h_ (d_ (a_ (g_ rfl) rfl (a_ (g_ rfl) rfl (a_ (jp_ E_ rfl) rfl (a_ (g_ rfl) rfl ?_)))))))))
    refine a_ (ae_ E_ rfl) rfl (a_ (P_ rfl rfl rfl (an_ (by omega) (by omega))) rfl (a_ (bG_ (P_ rfl rfl rfl (an_ (by omega) (by omega))) (show Value.int .i64 ((n : Int) - (0 - 0)) = Value.int .i64 (n : Int) from congrArg _ (by omega))) rfl (a_ (i_ rfl) rfl (e_ (c_ rfl (h_ (d_ (a_ (g_ rfl) rfl (x_ (bL_ rfl rfl) rfl fun r2 hr2 => ?_)))))))))
    refine e_ (c_ rfl ?_)
    cases r2
    · skip
      replace hr2 := of_decide_eq_false hr2
      refine s_ rfl (B_ (c_ rfl (h_ (d_ (a_ (g_ rfl) rfl (a_ (i_ rfl) rfl (e_ (c_ rfl (D_ ?_)))))))))
      exact aA_ Tryz.results130 ⟨(.slice none 0 0, []), aS_.nil _ _⟩ rfl F_ (fun _ _ _ => trivial)
    · skip
      replace hr2 := of_decide_eq_true hr2
      refine p_ rfl (d_ (a_ (g_ rfl) rfl (a_ (g_ rfl) rfl (a_ (jp_ E_ rfl) rfl (a_ (bG_ (fR_ (i := 0) (j := 0) (kl := .i64) (kh := .i64) E_ Q_ rfl rfl rfl (by omega) (by omega)) (show _ = Value.slice none 0 0 from rfl)) rfl (a_ (g_ rfl) rfl (jN_ (n := n) et_ bs_ rfl rfl (by omega) (by omega) (by simp only [maxLen]; omega) rfl fun yz bz hz => ?_)))))))
      refine a_ (g_ rfl) rfl (a_ (ae_ E_ rfl) rfl (a_ (bG_ (fR_ (i := 0) (j := 0) (kl := .i64) (kh := .i64) E_ Q_ rfl rfl rfl (by omega) (by omega)) (show _ = Value.slice (some ⟨bz, 0, none⟩) 0 yz.1 by simp [jz_])) rfl (a_ (i_ rfl) rfl (e_ (c_ rfl (h_ (d_ (a_ (g_ rfl) rfl (a_ (i_ rfl) rfl ?_)))))))))
      refine e_ (c_ rfl (D_ ?_))
      exact aA_ Tryz.results130 ⟨(.slice (some ⟨bz, 0, none⟩) 0 yz.1, [(bz, .cells yz.2 47 (0, 0))]), lB_ hz.2.1 hz.2.2⟩ rfl f_ (fun _ _ _ => trivial)
  · skip
    replace hr1 := of_decide_eq_true hr1
    exfalso; omega
theorem nn_ (xs : List PL) (xad : Option Addr) (xcap : Nat) (hok : ∀ x ∈ xs, x.ok) (hl : xs.length ≤ 100) : Tri Tryz.prog 81 #[.slice xad (List.length xs) xcap] [] [ap_ xad (List.flatMap PL.cells xs), plF xs] (fun y : {y : Option Addr × Nat // ((dR_ xs)).length ≤ y.2 ∧ y.2 ≤ maxLen ∧ (y.1 = none → y.2 = 0)} => .slice y.1.1 ((dR_ xs)).length y.1.2) (fun _ => []) (fun y => [ap_ y.1.1 (((dR_ xs)).flatMap Pc.cells)]) := by
 refine J_ Tryz.func81 rfl rfl Tryz.ntmps81 rfl fun v0 => ?_
 refine h_ (d_ (a_ (i_ rfl) rfl (e_ (c_ rfl (h_ (d_ (a_ (i_ rfl) rfl (e_ (c_ rfl ?_)))))))))
 refine h_ (h_ (d_ (a_ (g_ rfl) rfl (a_ (ae_ fN_ rfl) rfl (a_ (g_ rfl) rfl (e_ (c_ rfl (K_ ?_))))))))
 refine ax_ (ι := {y : Nat × Nat // y.1 ≤ List.length xs ∧ y.2 ≤ y.1 * 100000}) (fun y => [(0, .slice xad (List.length xs) xcap), (3, .int .i64 (y.1.2 : Int)), (9, .slice xad (List.length xs) xcap), (10, .int .i64 (List.length xs : Int)), (11, .int .i64 (y.1.1 : Int))]) (fun y => ([])) (fun y => [ap_ xad (List.flatMap PL.cells xs), plF xs]) (fun y => List.length xs - y.1.1) ⟨((0 : Nat), (0 : Nat)), by simp, by simp⟩ ⟨rfl, rfl, rfl, rfl, rfl, trivial⟩ F_ (fun _ _ h => h) ?_
 rintro ⟨⟨i, w⟩, hi, hw⟩
 dsimp only at hi hw ⊢
 refine h_ (d_ (x_ (ar_ rfl rfl) rfl fun r1 hr1 => ?_))
 refine e_ (c_ rfl (h_ ?_))
 cases r1
 ·
  replace hr1 := of_decide_eq_false hr1
  refine s_ rfl (au_ rfl (c_ rfl (h_ (d_ (a_ (g_ rfl) rfl (aa_ (oe_ w (by omega)) rfl F_ (fun _ _ _ => by exact trivial) rfl fun ⟨⟨svg9, Hg9⟩, hg9⟩ => ?_))))))
  dsimp only
  dsimp only at hg9
  refine ay_ fA_ ?_
  have hg8 : aS_ 47 10 svg9 (List.length (dR_ (List.take 0 xs))) (List.flatMap Pc.cells (dR_ (List.take 0 xs))) Hg9 := by exact hg9
  refine a_ (i_ rfl) rfl (e_ (c_ rfl (h_ (h_ (d_ (a_ (g_ rfl) rfl (a_ (ae_ fN_ rfl) rfl (a_ (g_ rfl) rfl (e_ ?_)))))))))
  refine c_ rfl (K_ ?_)
  refine ax_ (ι := {y : Nat × Value × Hp // y.1 ≤ List.length xs ∧ aS_ 47 10 y.2.1 (List.length (dR_ (List.take y.1 xs))) (List.flatMap Pc.cells (dR_ (List.take y.1 xs))) y.2.2}) (fun y => [(0, .slice xad (List.length xs) xcap), (6, y.1.2.1), (25, .slice xad (List.length xs) xcap), (26, .int .i64 (List.length xs : Int)), (27, .int .i64 (y.1.1 : Int))]) (fun y => (y.1.2.2)) (fun y => [ap_ xad (List.flatMap PL.cells xs), plF xs]) (fun y => List.length xs - y.1.1) ⟨((0 : Nat), svg9, Hg9), by simp, hg8⟩ ⟨rfl, rfl, rfl, rfl, rfl, trivial⟩ aO_ (fun _ _ h => h) ?_
  rintro ⟨⟨j, sv_Rp, H_Rp⟩, hj, hr_Rp⟩
  dsimp only at hj hr_Rp ⊢
  have hpl := lK_ hok j
  refine h_ (d_ (x_ (ar_ rfl rfl) rfl fun r2 hr2 => ?_))
  refine e_ (c_ rfl (h_ ?_))
  cases r2
  ·
   replace hr2 := of_decide_eq_false hr2
   rw [List.take_of_length_le (by omega)] at hr_Rp
   refine s_ rfl (au_ rfl (c_ rfl (h_ (d_ (a_ (g_ rfl) rfl (a_ (i_ rfl) rfl (e_ (c_ rfl (D_ ?_)))))))))
   refine cj_ hr_Rp aO_ fun ad2 cp2 had2 hcad2 hmad2 hzad2 => ?_
   exact aA_ Tryz.results81 ⟨(ad2, cp2), hcad2, hmad2, hzad2⟩ (eU_ rfl had2) F_ (fun v _ h => ⟨h.1, trivial⟩)
  ·
   replace hr2 := of_decide_eq_true hr2
   have hlx2 : j < List.length xs := by omega
   obtain ⟨x2, hx2⟩ : ∃ e0, xs[j]? = some e0 := ⟨_, List.getElem?_eq_getElem hlx2⟩
   have hmx2 : x2 ∈ xs := List.mem_of_getElem? hx2
   have hsh1 := (hok x2 hmx2).sh
   refine p_ rfl (B_ (c_ rfl (h_ (K_ (h_ (d_ (a_ (al_ fN_ bZ_ rfl rfl (fun v _ h => aG_ (n := 1) PL.cells_len (by decide) (by exact h.1) hx2) (by omega) (by first | omega | (simp; done))) rfl (a_ (bu_ (ad := xad) cQ_ rfl (fun v _ h => by exact h.1) (ao_ PL.cells_len hx2 0 _ rfl)) rfl (a_ (i_ rfl) rfl ?_)))))))))
   refine e_ (c_ rfl (d_ (a_ (g_ rfl) rfl (a_ (g_ rfl) rfl (dr_ (news := List.flatMap Pc.cells (PL.l x2)) et_ hr_Rp rfl rfl (hok x2 hmx2).nz (hok x2 hmx2).le aO_ (by rw [dc_ Pc.cells 10 Pc.cells_len]) (fun v _ h => by exact (h.2.1 x2 hmx2)) (fun u hu => bg_ Pc.cells_one hu) (by simp only [maxLen]; (have := (hok x2 hmx2).sh; omega)) (by (have := (hok x2 hmx2).sh; omega)) rfl fun sv1 Hr1 hr1 => ?_)))))
   refine ay_ List.perm_append_comm ?_
   have hq1 : aS_ 47 10 sv1 (List.length ((dR_ (List.take j xs)) ++ (PL.l x2))) (List.flatMap Pc.cells ((dR_ (List.take j xs)) ++ (PL.l x2))) Hr1 := by rw [List.length_append, List.flatMap_append]; exact hr1
   refine a_ (i_ rfl) rfl (e_ (c_ rfl (d_ (a_ (P_ rfl rfl rfl (an_ (by omega) (by omega))) rfl (a_ (g_ rfl) rfl (e_ (v_ rfl ?_)))))))
   exact ai_ ⟨(j + 1, sv1, Hr1), hlx2, (by rw [kw_ hx2]; exact hq1)⟩ (by dsimp only; omega) ⟨rfl, rfl, rfl, rfl, rfl, trivial⟩ aO_ (fun _ _ h => h)
 ·
  replace hr1 := of_decide_eq_true hr1
  have hlx1 : i < List.length xs := by omega
  obtain ⟨x1, hx1⟩ : ∃ e0, xs[i]? = some e0 := ⟨_, List.getElem?_eq_getElem hlx1⟩
  have hmx1 : x1 ∈ xs := List.mem_of_getElem? hx1
  have hsh1 := (hok x1 hmx1).sh
  refine p_ rfl (B_ (c_ rfl (h_ (K_ (h_ (d_ (a_ (al_ fN_ bZ_ rfl rfl (fun v _ h => aG_ (n := 1) PL.cells_len (by decide) (by exact h.1) hx1) (by omega) (by first | omega | (simp; done))) rfl (a_ (bu_ (ad := xad) cQ_ rfl (fun v _ h => by exact h.1) (ao_ PL.cells_len hx1 0 _ rfl)) rfl (a_ (i_ rfl) rfl ?_)))))))))
  refine e_ (c_ rfl (h_ (d_ (a_ (g_ rfl) rfl (a_ (g_ rfl) rfl (a_ (ae_ E_ rfl) rfl (a_ (P_ rfl rfl rfl (an_ (by omega) (by omega))) rfl (a_ (i_ rfl) rfl (e_ ?_)))))))))
  refine c_ rfl (h_ (d_ (a_ (g_ rfl) rfl (x_ (ar_ rfl rfl) rfl fun r3 hr3 => ?_))))
  refine e_ (c_ rfl ?_)
  cases r3
  ·
   replace hr3 := of_decide_eq_false hr3
   refine s_ rfl (B_ (c_ rfl (d_ (a_ (P_ rfl rfl rfl (an_ (by omega) (by omega))) rfl (a_ (g_ rfl) rfl (e_ (v_ rfl ?_)))))))
   exact ai_ ⟨(i + 1, w + List.length (PL.l x1)), hlx1, by have := (hok x1 hmx1).sh; dsimp only; omega⟩ (by dsimp only; omega) ⟨rfl, (ci_ rfl (by push_cast; rfl)), rfl, rfl, rfl, trivial⟩ F_ (fun _ _ h => h)
  ·
   replace hr3 := of_decide_eq_true hr3
   exfalso; omega
end Go.Proofs.YtpdbbglpbngeiaaGreatDoor
namespace Go.Proofs.YtpdbbglpbngeiaaGreatDoor
open Go Go.Sx Go.Proofs
attribute [local irreducible] Code.wp wpList wpAnyH
open Go.Vs
theorem keyI : KeyT Tryz.prog 3 (fun n : Int => .int .i64 n) := nb_ bs_
def fs_ (w : Wk) (p : List Pc) (bu : Int) (x : Wk) (new : List Fc) (e : Int) : Prop :=
  if br_ p ≠ 0 then x = Wk.no ∧ new = [] ∧ e = br_ p
  else if ¬ (0 ≤ bu ∧ bu ≤ 1073741824) then x = Wk.no ∧ new = [] ∧ e = 1
  else if 16384 < w.ps.length + p.length then x = Wk.no ∧ new = [] ∧ e = 2
  else cs_ (w.ps ++ p) bu x e ∧ new = if e = 0 then bm_ x.cl.facts w.cl.facts else []
theorem fs_.good {w : Wk} {p : List Pc} {bu : Int} {x : Wk} {new : List Fc} (h : fs_ w p bu x new 0) : br_ p = 0 ∧ (0 ≤ bu ∧ bu ≤ 1073741824) ∧ w.ps.length + p.length ≤ 16384 ∧ cs_ (w.ps ++ p) bu x 0 ∧ new = bm_ x.cl.facts w.cl.facts := by
  unfold fs_ at h
  split at h
  · rename_i h1; exact absurd h.2.2.symm h1
  · rename_i h1
    split at h
    · exact absurd h.2.2 (by decide)
    · rename_i h2
      split at h
      · exact absurd h.2.2 (by decide)
      · rename_i h3
        exact ⟨Decidable.not_not.1 h1, Decidable.not_not.1 h2, by omega, h.1, h.2⟩
theorem fs_.ok {w : Wk} {p : List Pc} {bu : Int} {x : Wk} {new : List Fc} {e : Int} (h : fs_ w p bu x new e) : x.ok ∧ x.ps.length ≤ w.ps.length + p.length ∧ x.cl.atoms.length ≤ 3 * (w.ps.length + p.length) + 2 ∧ x.cl.facts.length ≤ 65536 ∧ new.length ≤ 65536 := by
  have no : Wk.no.ok ∧ Wk.no.ps.length ≤ w.ps.length + p.length ∧ Wk.no.cl.atoms.length ≤ 3 * (w.ps.length + p.length) + 2 ∧ Wk.no.cl.facts.length ≤ 65536 ∧ ([] : List Fc).length ≤ 65536 := ⟨Wk.no_ok, by simp [Wk.no], by simp [Wk.no, Cl.no], by simp [Wk.no, Cl.no], by simp⟩
  unfold fs_ at h
  split at h
  · obtain ⟨rfl, rfl, _⟩ := h; exact no
  · split at h
    · obtain ⟨rfl, rfl, _⟩ := h; exact no
    · split at h
      · obtain ⟨rfl, rfl, _⟩ := h; exact no
      · obtain ⟨q1, q2, q3⟩ := h.1.len
        rw [List.length_append] at q1 q2
        refine ⟨h.1.ok, q1, q2, q3, ?_⟩
        rw [h.2]
        split
        · have := fp_ x.cl.facts w.cl.facts; omega
        · simp
def kS_ (n : Nat) (l : List Int) : Prop := (∀ x ∈ l, 0 ≤ x ∧ x < n) ∧ l.Pairwise (· < ·)
instance (n : Nat) (l : List Int) : Decidable (kS_ n l) := by unfold kS_; exact inferInstance
def bF_ (l : List Int) : Nat → List Pc → List Pc
  | _, [] => []
  | i, x :: r => if (i : Int) ∈ l then bF_ l (i + 1) r else x :: bF_ l (i + 1) r
theorem gp_ (l : List Int) : ∀ (i : Nat) (r s : List Pc), bF_ l i (r ++ s) = bF_ l i r ++ bF_ l (i + r.length) s
  | i, [], s => by simp [bF_]
  | i, x :: r, s => by
    rw [List.cons_append, bF_, gp_ l (i + 1) r s, bF_, List.length_cons, show i + 1 + r.length = i + (r.length + 1) by omega]
    split <;> simp
theorem ef_ {l : List Int} {p : List Pc} {i : Nat} {x : Pc} (h : p[i]? = some x) : bF_ l 0 (p.take (i + 1)) = bF_ l 0 (p.take i) ++ (if (i : Int) ∈ l then [] else [x]) := by
  have hi := (List.getElem?_eq_some_iff.1 h).1
  rw [List.take_add_one, h, Option.toList_some, gp_, List.length_take, Nat.min_eq_left (by omega), Nat.zero_add]
  simp only [bF_]
theorem dF_ (l : List Int) : ∀ (i : Nat) (p : List Pc), ∀ x ∈ bF_ l i p, x ∈ p
  | _, [], x, h => by simp [bF_] at h
  | i, y :: r, x, h => by
    simp only [bF_] at h
    split at h
    · exact List.mem_cons_of_mem _ (dF_ l (i + 1) r x h)
    · rcases List.mem_cons.1 h with rfl | h
      · exact List.mem_cons_self
      · exact List.mem_cons_of_mem _ (dF_ l (i + 1) r x h)
theorem dt_ (l : List Int) : ∀ (i : Nat) (p : List Pc), (bF_ l i p).length ≤ p.length
  | _, [] => by simp [bF_]
  | i, y :: r => by
    have := dt_ l (i + 1) r
    simp only [bF_]
    split <;> simp only [List.length_cons] <;> omega
def eH_ (w : Wk) (l : List Int) (bu : Int) (x : Wk) (gone : List Fc) (e : Int) : Prop :=
  if ¬ (kS_ w.ps.length l ∧ 0 ≤ bu ∧ bu ≤ 1073741824) then x = Wk.no ∧ gone = [] ∧ e = 1
  else cs_ (bF_ l 0 w.ps) bu x e ∧ gone = if e = 0 then bm_ w.cl.facts x.cl.facts else []
theorem eH_.good {w : Wk} {l : List Int} {bu : Int} {x : Wk} {g : List Fc} (h : eH_ w l bu x g 0) : kS_ w.ps.length l ∧ (0 ≤ bu ∧ bu ≤ 1073741824) ∧ cs_ (bF_ l 0 w.ps) bu x 0 ∧ g = bm_ w.cl.facts x.cl.facts := by
  unfold eH_ at h
  split at h
  · exact absurd h.2.2 (by decide)
  · rename_i h1
    have h1 := Decidable.not_not.1 h1
    exact ⟨h1.1, h1.2, h.1, h.2⟩
theorem eH_.ok {w : Wk} {l : List Int} {bu : Int} {x : Wk} {g : List Fc} {e : Int} (h : eH_ w l bu x g e) : x.ok ∧ x.ps.length ≤ w.ps.length ∧ x.cl.atoms.length ≤ 3 * w.ps.length + 2 ∧ x.cl.facts.length ≤ 65536 ∧ g.length ≤ w.cl.facts.length := by
  unfold eH_ at h
  split at h
  · obtain ⟨rfl, rfl, _⟩ := h; exact ⟨Wk.no_ok, by simp [Wk.no], by simp [Wk.no, Cl.no], by simp [Wk.no, Cl.no], by simp⟩
  · obtain ⟨q1, q2, q3⟩ := h.1.len
    have := dt_ l 0 w.ps
    refine ⟨h.1.ok, by omega, by omega, q3, ?_⟩
    rw [h.2]
    split
    · exact fp_ _ _
    · simp
theorem jx_ {p : List Pc} {bu : Int} {w : Wk} {e : Int} (h : cs_ p bu w e) (he : e ≠ 0) : cs_ p bu Wk.no e := by
  obtain ⟨c, h1, _, _⟩ := h
  exact ⟨c, h1, fun q => absurd q he, fun _ => rfl⟩
set_option maxHeartbeats 1000000 in
theorem oD_ (w : Wk) (p : List Pc) (pad : Option Addr) (pcap : Nat) (bu : Int) (hsw : ∀ x ∈ w.ps, x.sm) (hw1 : w.ps.length ≤ w.pcap) (hw2 : w.pad = none → w.pcap = 0) (hw3 : w.ps.length ≤ 16384) (hw4 : w.cl.facts.length ≤ 100000000) (hsm : ∀ x ∈ p, x.sm) (hp1 : p.length ≤ pcap) (hp2 : pad = none → pcap = 0) (hp3 : p.length ≤ 100000) : Tri Tryz.prog 39 #[Wk.val w, .slice pad (List.length p) pcap, .int .i64 bu] [] [ap_ (Wk.pad w) (List.flatMap Pc.cells (Wk.ps w)), ap_ (Cl.aad (Wk.cl w)) (List.flatMap aL_ (Cl.atoms (Wk.cl w))), ap_ (Cl.fad (Wk.cl w)) (List.flatMap Fc.cells (Cl.facts (Wk.cl w))), ap_ pad (List.flatMap Pc.cells p), eu_] (fun y : {y : Wk × List Fc × Option Addr × Nat × Int // fs_ w p bu y.1 y.2.1 y.2.2.2.2 ∧ (y.2.1.length ≤ y.2.2.2.1 ∧ y.2.2.2.1 ≤ maxLen ∧ (y.2.2.1 = none → y.2.2.2.1 = 0))} => .tuple #[y.1.1.val, .slice y.1.2.2.1 y.1.2.1.length y.1.2.2.2.1, .int .i64 y.1.2.2.2.2]) (fun _ => []) (fun y => y.1.1.row ++ [ap_ y.1.2.2.1 (y.1.2.1.flatMap Fc.cells)]) := by
 refine J_ Tryz.func39 rfl rfl Tryz.ntmps39 rfl fun v0 => ?_
 refine h_ (d_ (bd_ rfl rfl fun b1 => ?_))
 refine ah_ bQ_ rfl fun b2 => ?_
 refine a_ (i_ rfl) rfl (a_ (i_ rfl) rfl (e_ (c_ rfl (h_ (h_ (d_ (a_ (g_ rfl) rfl (aa_ (jc_ p pad pcap (by omega) hsm) rfl F_ (fun v _ h => by exact ⟨h.2.2.2.1, h.2.2.2.2.1, trivial⟩) rfl fun _ => ?_))))))))
 refine a_ (i_ rfl) rfl (e_ (c_ rfl (h_ (d_ (a_ (g_ rfl) rfl (x_ (bC_ rfl rfl) rfl fun r1 hr1 => ?_))))))
 refine e_ (c_ rfl ?_)
 cases r1
 ·
  replace hr1 := aQ_ hr1
  have hchk := hr1
  refine s_ rfl (B_ (c_ rfl (h_ (h_ (d_ (a_ (g_ rfl) rfl (aI_ (ik_ bu) rfl F_ (fun _ _ _ => by exact trivial) rfl fun r2 hr2 => ?_)))))))
  refine a_ (bS_ rfl) rfl (e_ (c_ rfl ?_))
  cases r2
  ·
   replace hr2 := of_decide_eq_false hr2
   refine p_ rfl (h_ (d_ (a_ (aj_ dL_ rfl rfl) rfl (R_ 0 Z_ rfl rfl rfl rfl rfl rfl (a_ (i_ rfl) rfl (a_ (i_ rfl) rfl (e_ (c_ rfl (D_ ?_)))))))))
   exact dh_ ⟨((Wk.mk [] none 0 (Cl.mk [] none 0 [] none 0)), ([] : List Fc), none, 0, 1), by unfold fs_; rw [if_neg (fun q => q hchk), if_pos (by assumption)]; exact ⟨rfl, rfl, rfl⟩, ⟨Nat.le_refl _, by simp, fun _ => rfl⟩⟩ (fun aa v h1 h2 => cU_ (us := Wk.cells (Wk.mk [] none 0 (Cl.mk [] none 0 [] none 0))) 0 fh_ aT_ Z_ rfl rfl rfl rfl rfl aa v h1 h2) F_ (fun v _ h => by exact ⟨.inl rfl, .inl rfl, .inl rfl, .inl rfl, trivial⟩)
  ·
   replace hr2 := of_decide_eq_true hr2
   have hbu := hr2
   refine s_ rfl (B_ (c_ rfl (h_ (h_ (d_ (a_ (m_ aE_ rfl rfl rfl bZ_) rfl (a_ (t_ 1 cQ_ rfl rfl rfl) rfl (a_ (ae_ E_ rfl) rfl (a_ (g_ rfl) rfl ?_)))))))))
   refine a_ (ae_ E_ rfl) rfl (a_ (P_ rfl rfl rfl (an_ (by omega) (by omega))) rfl (x_ (bL_ rfl rfl) rfl fun r3 hr3 => ?_))
   refine e_ (c_ rfl ?_)
   cases r3
   ·
    replace hr3 := of_decide_eq_false hr3
    refine s_ rfl (B_ (c_ rfl (h_ (d_ (a_ (m_ aE_ rfl rfl rfl bZ_) rfl (a_ (t_ 1 cQ_ rfl rfl rfl) rfl (a_ (g_ rfl) rfl (aY_ fN_ bZ_ bR_ rfl rfl rfl rfl rfl rfl fun b3 => ?_))))))))
    refine da_ (List.flatMap PL.cells [(PL.mk (Wk.ps w) (Wk.pad w) (Wk.pcap w)), (PL.mk p pad pcap)]) f_ rfl ?_
    refine aa_ (nn_ [(PL.mk (Wk.ps w) (Wk.pad w) (Wk.pcap w)), (PL.mk p pad pcap)] (some ⟨b3, 0, none⟩) 2 (fun y hy => by simp only [List.mem_cons, List.not_mem_nil, or_false] at hy; rcases hy with rfl | rfl; exact ⟨hw1, hw2, by dsimp only; omega⟩; exact ⟨hp1, hp2, by dsimp only; omega⟩) (by simp)) rfl F_ (fun v _ h => by refine ⟨h.1, fun y hy => ?_, trivial⟩; simp only [List.mem_cons, List.not_mem_nil, or_false] at hy; rcases hy with rfl | rfl; exact h.2.1; exact h.2.2.2.2.1) rfl fun ⟨⟨ccad, cccap⟩, hcc1, hcc2, hcc3⟩ => ?_
    dsimp only
    dsimp only at hcc1 hcc2 hcc3
    have eC : (dR_ [(PL.mk (Wk.ps w) (Wk.pad w) (Wk.pcap w)), (PL.mk p pad pcap)]) = w.ps ++ p := by simp [dR_]
    have hCl : List.length (dR_ [(PL.mk (Wk.ps w) (Wk.pad w) (Wk.pcap w)), (PL.mk p pad pcap)]) = w.ps.length + p.length := by rw [eC, List.length_append]
    refine a_ (g_ rfl) rfl (aa_ (gg_ (dR_ [(PL.mk (Wk.ps w) (Wk.pad w) (Wk.pcap w)), (PL.mk p pad pcap)]) ccad cccap bu (fun y hy => by rw [eC] at hy; rcases List.mem_append.1 hy with h | h; exact hsw y h; exact hsm y h) (by omega) (by omega)) rfl F_ (fun v _ h => by exact ⟨h.1, h.2.2.2.2.2.2.1, trivial⟩) rfl fun ⟨⟨x1, e1⟩, hS1⟩ => ?_)
    dsimp only
    dsimp only at hS1
    have hlx1 := hS1.len
    refine a_ (g_ rfl) rfl (a_ (V_ rfl rfl) rfl (a_ (V_ rfl rfl) rfl (R_ 0 Z_ rfl rfl rfl rfl rfl rfl (a_ (i_ rfl) rfl (e_ (c_ rfl (h_ (h_ (d_ ?_)))))))))
    refine a_ (g_ rfl) rfl (x_ (bC_ rfl rfl) rfl fun r4 hr4 => ?_)
    refine e_ (c_ rfl ?_)
    cases r4
    ·
     replace hr4 := aQ_ hr4
     have he1 : e1 = 0 := hr4
     refine s_ rfl (B_ (c_ rfl (h_ (d_ (a_ (m_ aE_ rfl rfl rfl ad_) rfl (a_ (X_ 1 bp_ ad_ rfl rfl rfl) rfl (aa_ (hW_ (Wk.cl w) (by omega)) rfl F_ (fun v _ h => by exact ⟨h.2.2.2.2.2.2.2.1, trivial⟩) rfl fun ⟨⟨mb, es, ce, q⟩, hE, hq⟩ => ?_)))))))
     dsimp only
     dsimp only at hE hq
     refine a_ (i_ rfl) rfl (e_ (c_ rfl (h_ ?_)))
     refine aB_ ((b1, .cells #[.slice (Wk.pad w) (List.length (Wk.ps w)) (Wk.pcap w), .slice (Cl.aad (Wk.cl w)) (List.length (Cl.atoms (Wk.cl w))) (Cl.acap (Wk.cl w)), .slice (Cl.fad (Wk.cl w)) (List.length (Cl.facts (Wk.cl w))) (Cl.fcap (Wk.cl w))] 50 (0, 0)) :: []) (by kernel_rfl) ?_
     refine ag_ 6 [1, 2, 4, 5] (by kernel_rfl) (fun _ a b => ⟨a.tail.tail, b⟩) (l_ rfl (m_ aE_ rfl rfl rfl ad_) rfl (l_ rfl (m_ as_ rfl rfl rfl bq_) rfl (l_ rfl (g_ rfl) rfl (l_ rfl (cd_ rfl rfl) rfl (af_ ?_)))))
     refine eo_ 0 3 rfl rfl (by kernel_rfl) ?_ ?_
     ·
      refine a_ (X_ 1 aT_ Z_ rfl rfl rfl) rfl (e_ (v_ rfl (C_ (fun _ a b => ⟨a.tail.tail, b⟩) (N_ 3 rfl (by kernel_rfl) (a_ (t_ 1 bi_ rfl rfl rfl) rfl (e_ (v_ rfl (C_ (fun _ a b => ⟨a.tail.tail, b⟩) (N_ 6 rfl (by kernel_rfl) ?_)))))))))
      refine aa_ (fo_ (Cl.facts (Wk.cl x1)) (Cl.fad (Wk.cl x1)) (Cl.fcap (Wk.cl x1)) mb es ce q hE (by omega)) rfl f_ (fun v _ h => by exact ⟨h.2.2.1, trivial⟩) rfl fun ⟨⟨nad, ncap⟩, hn1, hn2, hn3⟩ => ?_
      dsimp only
      dsimp only at hn1 hn2 hn3
      refine e_ (v_ rfl (C_ (fun _ a b => ⟨a.tail.tail, b.2⟩) (N_ 7 rfl (by kernel_rfl) (R_ 1 Z_ rfl rfl rfl rfl rfl rfl (e_ (v_ rfl (C_ (fun _ a b => ⟨a.tail.tail, b.2⟩) (ag_ 0 [8, 9] (by kernel_rfl) (fun _ a b => ⟨a.tail.tail, b.2⟩) (l_ rfl (i_ rfl) rfl ?_)))))))))
      refine l_ rfl (i_ rfl) rfl (af_ (Y_ (by kernel_rfl) (c_ rfl (D_ ?_))))
      exact dh_ ⟨(x1, (bm_ (Cl.facts (Wk.cl x1)) q), nad, ncap, 0), by unfold fs_; rw [if_neg (fun q => q hchk), if_neg (fun q => q hbu), if_neg (by omega)]; rw [if_pos rfl]; exact ⟨eC ▸ he1 ▸ hS1, dl_ hq⟩, ⟨hn1, hn2, hn3⟩⟩ (fun aa v h1 h2 => cU_ (us := Wk.cells x1) 1 fh_ aT_ Z_ rfl rfl rfl rfl rfl aa v h1 h2) F_ (fun v _ h => by exact ⟨h.2.1, h.2.2.1, h.2.2.2.1, h.1, trivial⟩)
     ·
      refine a_ (t_ 1 bi_ rfl rfl rfl) rfl (e_ (v_ rfl (C_ (fun _ a b => ⟨a.tail.tail, b⟩) ?_)))
      refine eo_ 0 6 rfl rfl (by kernel_rfl) ?_ ?_
      ·
       refine a_ (X_ 1 aT_ Z_ rfl rfl rfl) rfl (e_ (v_ rfl (C_ (fun _ a b => ⟨a.tail.tail, b⟩) (N_ 6 rfl (by kernel_rfl) (aa_ (fo_ (Cl.facts (Wk.cl x1)) (Cl.fad (Wk.cl x1)) (Cl.fcap (Wk.cl x1)) mb es ce q hE (by omega)) rfl f_ (fun v _ h => by exact ⟨h.2.2.1, trivial⟩) rfl fun ⟨⟨nad, ncap⟩, hn1, hn2, hn3⟩ => ?_)))))
       dsimp only
       dsimp only at hn1 hn2 hn3
       refine e_ (v_ rfl (C_ (fun _ a b => ⟨a.tail.tail, b.2⟩) (N_ 7 rfl (by kernel_rfl) (R_ 1 Z_ rfl rfl rfl rfl rfl rfl (e_ (v_ rfl (C_ (fun _ a b => ⟨a.tail.tail, b.2⟩) (ag_ 0 [8, 9] (by kernel_rfl) (fun _ a b => ⟨a.tail.tail, b.2⟩) (l_ rfl (i_ rfl) rfl ?_)))))))))
       refine l_ rfl (i_ rfl) rfl (af_ (Y_ (by kernel_rfl) (c_ rfl (D_ ?_))))
       exact dh_ ⟨(x1, (bm_ (Cl.facts (Wk.cl x1)) q), nad, ncap, 0), by unfold fs_; rw [if_neg (fun q => q hchk), if_neg (fun q => q hbu), if_neg (by omega)]; rw [if_pos rfl]; exact ⟨eC ▸ he1 ▸ hS1, dl_ hq⟩, ⟨hn1, hn2, hn3⟩⟩ (fun aa v h1 h2 => cU_ (us := Wk.cells x1) 1 fh_ aT_ Z_ rfl rfl rfl rfl rfl aa v h1 h2) F_ (fun v _ h => by exact ⟨h.2.1, h.2.2.1, h.2.2.2.1, h.1, trivial⟩)
      ·
       refine aa_ (fo_ (Cl.facts (Wk.cl x1)) (Cl.fad (Wk.cl x1)) (Cl.fcap (Wk.cl x1)) mb es ce q hE (by omega)) rfl f_ (fun v _ h => by exact ⟨h.2.2.1, trivial⟩) rfl fun ⟨⟨nad, ncap⟩, hn1, hn2, hn3⟩ => ?_
       dsimp only
       dsimp only at hn1 hn2 hn3
       refine e_ (v_ rfl (C_ (fun _ a b => ⟨a.tail.tail, b.2⟩) (N_ 0 rfl (by kernel_rfl) (a_ (X_ 1 aT_ Z_ rfl rfl rfl) rfl (e_ (v_ rfl (C_ (fun _ a b => ⟨a.tail.tail, b.2⟩) (N_ 7 rfl (by kernel_rfl) (R_ 1 Z_ rfl rfl rfl rfl rfl rfl ?_)))))))))
       refine e_ (v_ rfl (C_ (fun _ a b => ⟨a.tail.tail, b.2⟩) (ag_ 0 [8, 9] (by kernel_rfl) (fun _ a b => ⟨a.tail.tail, b.2⟩) (l_ rfl (i_ rfl) rfl (l_ rfl (i_ rfl) rfl (af_ (Y_ (by kernel_rfl) (c_ rfl (D_ ?_)))))))))
       exact dh_ ⟨(x1, (bm_ (Cl.facts (Wk.cl x1)) q), nad, ncap, 0), by unfold fs_; rw [if_neg (fun q => q hchk), if_neg (fun q => q hbu), if_neg (by omega)]; rw [if_pos rfl]; exact ⟨eC ▸ he1 ▸ hS1, dl_ hq⟩, ⟨hn1, hn2, hn3⟩⟩ (fun aa v h1 h2 => cU_ (us := Wk.cells x1) 1 fh_ aT_ Z_ rfl rfl rfl rfl rfl aa v h1 h2) F_ (fun v _ h => by exact ⟨h.2.1, h.2.2.1, h.2.2.2.1, h.1, trivial⟩)
    ·
     replace hr4 := aP_ hr4
     refine p_ rfl (h_ (d_ (a_ (aj_ dL_ rfl rfl) rfl (a_ (g_ rfl) rfl (R_ 0 Z_ rfl rfl rfl rfl rfl rfl (a_ (i_ rfl) rfl (a_ (i_ rfl) rfl (e_ (c_ rfl ?_)))))))))
     refine D_ ?_
     exact dh_ ⟨((Wk.mk [] none 0 (Cl.mk [] none 0 [] none 0)), ([] : List Fc), none, 0, e1), by unfold fs_; rw [if_neg (fun q => q hchk), if_neg (fun q => q hbu), if_neg (by omega)]; rw [if_neg (by assumption)]; exact ⟨(jx_ (eC ▸ hS1) (by assumption)), rfl⟩, ⟨Nat.le_refl _, by simp, fun _ => rfl⟩⟩ (fun aa v h1 h2 => cU_ (us := Wk.cells (Wk.mk [] none 0 (Cl.mk [] none 0 [] none 0))) 0 fh_ aT_ Z_ rfl rfl rfl rfl rfl aa v h1 h2) F_ (fun v _ h => by exact ⟨.inl rfl, .inl rfl, .inl rfl, .inl rfl, trivial⟩)
   ·
    replace hr3 := of_decide_eq_true hr3
    refine p_ rfl (h_ (d_ (a_ (aj_ dL_ rfl rfl) rfl (R_ 0 Z_ rfl rfl rfl rfl rfl rfl (a_ (i_ rfl) rfl (a_ (i_ rfl) rfl (e_ (c_ rfl (D_ ?_)))))))))
    exact dh_ ⟨((Wk.mk [] none 0 (Cl.mk [] none 0 [] none 0)), ([] : List Fc), none, 0, 2), by unfold fs_; rw [if_neg (fun q => q hchk), if_neg (fun q => q hbu), if_pos (by omega)]; exact ⟨rfl, rfl, rfl⟩, ⟨Nat.le_refl _, by simp, fun _ => rfl⟩⟩ (fun aa v h1 h2 => cU_ (us := Wk.cells (Wk.mk [] none 0 (Cl.mk [] none 0 [] none 0))) 0 fh_ aT_ Z_ rfl rfl rfl rfl rfl aa v h1 h2) F_ (fun v _ h => by exact ⟨.inl rfl, .inl rfl, .inl rfl, .inl rfl, trivial⟩)
 ·
  replace hr1 := aP_ hr1
  refine p_ rfl (h_ (d_ (a_ (aj_ dL_ rfl rfl) rfl (a_ (g_ rfl) rfl (R_ 0 Z_ rfl rfl rfl rfl rfl rfl (a_ (i_ rfl) rfl (a_ (i_ rfl) rfl (e_ (c_ rfl ?_)))))))))
  refine D_ ?_
  exact dh_ ⟨((Wk.mk [] none 0 (Cl.mk [] none 0 [] none 0)), ([] : List Fc), none, 0, (br_ p)), by unfold fs_; rw [if_pos (by assumption)]; exact ⟨rfl, rfl, rfl⟩, ⟨Nat.le_refl _, by simp, fun _ => rfl⟩⟩ (fun aa v h1 h2 => cU_ (us := Wk.cells (Wk.mk [] none 0 (Cl.mk [] none 0 [] none 0))) 0 fh_ aT_ Z_ rfl rfl rfl rfl rfl aa v h1 h2) F_ (fun v _ h => by exact ⟨.inl rfl, .inl rfl, .inl rfl, .inl rfl, trivial⟩)
end Go.Proofs.YtpdbbglpbngeiaaGreatDoor
namespace Go.Proofs.YtpdbbglpbngeiaaGreatDoor
open Go Go.Sx Go.Proofs
attribute [local irreducible] Code.wp wpList wpAnyH
open Go.Vs
set_option maxHeartbeats 1000000 in
theorem ht_ (w : Wk) (wh : List Int) (had : Option Addr) (hcap : Nat) (bu : Int) (hsw : ∀ x ∈ w.ps, x.sm) (hw1 : w.ps.length ≤ w.pcap) (hw2 : w.pad = none → w.pcap = 0) (hw3 : w.ps.length ≤ 16384) (hw4 : w.cl.facts.length ≤ 100000000) (hwl : wh.length ≤ 100000000) : Tri Tryz.prog 41 #[Wk.val w, .slice had (List.length wh) hcap, .int .i64 bu] [] [ap_ (Wk.pad w) (List.flatMap Pc.cells (Wk.ps w)), ap_ (Cl.aad (Wk.cl w)) (List.flatMap aL_ (Cl.atoms (Wk.cl w))), ap_ (Cl.fad (Wk.cl w)) (List.flatMap Fc.cells (Cl.facts (Wk.cl w))), ap_ had (List.flatMap fm_ wh), eu_] (fun y : {y : Wk × List Fc × Option Addr × Nat × Int // eH_ w wh bu y.1 y.2.1 y.2.2.2.2 ∧ (y.2.1.length ≤ y.2.2.2.1 ∧ y.2.2.2.1 ≤ maxLen ∧ (y.2.2.1 = none → y.2.2.2.1 = 0))} => .tuple #[y.1.1.val, .slice y.1.2.2.1 y.1.2.1.length y.1.2.2.2.1, .int .i64 y.1.2.2.2.2]) (fun _ => []) (fun y => y.1.1.row ++ [ap_ y.1.2.2.1 (y.1.2.1.flatMap Fc.cells)]) := by
 refine J_ Tryz.func41 rfl rfl Tryz.ntmps41 rfl fun v0 => ?_
 refine h_ (d_ (bd_ rfl rfl fun b1 => ?_))
 refine ah_ bQ_ rfl fun b2 => ?_
 refine a_ (i_ rfl) rfl (a_ (i_ rfl) rfl (e_ (c_ rfl (h_ (d_ (cI_ rfl fun b3 => ?_))))))
 refine a_ (i_ rfl) rfl (e_ (c_ rfl (h_ (h_ (d_ (a_ (g_ rfl) rfl (a_ (ae_ cg_ rfl) rfl (a_ (g_ rfl) rfl (e_ ?_)))))))))
 refine c_ rfl (K_ ?_)
 refine ax_ (ι := {y : Nat × Array MapEntry × Nat × List Int // y.1 ≤ List.length wh ∧ SetE (fun n : Int => Value.int .i64 n) y.2.1 y.2.2.2 ∧ (∀ f, f ∈ y.2.2.2 ↔ f ∈ List.take y.1 wh) ∧ (∀ x ∈ List.take y.1 wh, 0 ≤ x ∧ x < List.length (Wk.ps w)) ∧ (List.take y.1 wh).Pairwise (fun x y : Int => x < y)}) (fun y => [(2, .int .i64 bu), (3, zp_ b1 0), (6, zp_ b2 0), (7, .slice none 0 0), (9, .map (some b3)), (1, .slice had (List.length wh) hcap), (17, .slice had (List.length wh) hcap), (18, .int .i64 (List.length wh : Int)), (19, .int .i64 (y.1.1 : Int))]) (fun y => ((b3, .map y.1.2.1 y.1.2.2.1) :: ((b2, .cells #[.slice none 0 0, .slice none 0 0, .slice none 0 0] 50 (0, 0)) :: ((b1, .cells #[.slice (Wk.pad w) (List.length (Wk.ps w)) (Wk.pcap w), .slice (Cl.aad (Wk.cl w)) (List.length (Cl.atoms (Wk.cl w))) (Cl.acap (Wk.cl w)), .slice (Cl.fad (Wk.cl w)) (List.length (Cl.facts (Wk.cl w))) (Cl.fcap (Wk.cl w))] 50 (0, 0)) :: [])))) (fun y => [ap_ (Wk.pad w) (List.flatMap Pc.cells (Wk.ps w)), ap_ (Cl.aad (Wk.cl w)) (List.flatMap aL_ (Cl.atoms (Wk.cl w))), ap_ (Cl.fad (Wk.cl w)) (List.flatMap Fc.cells (Cl.facts (Wk.cl w))), ap_ had (List.flatMap fm_ wh), eu_]) (fun y => List.length wh - y.1.1) ⟨((0 : Nat), #[], 0, ([] : List Int)), by simp, SetE.nil, by simp, by simp, List.Pairwise.nil⟩ ⟨rfl, rfl, rfl, rfl, rfl, rfl, rfl, rfl, rfl, trivial⟩ (j_ f_ (j_ f_ f_)) (fun _ _ h => h) ?_
 rintro ⟨⟨i, es, ce, q⟩, hi, hE, hq, hb, hpw⟩
 dsimp only at hi hE hq hb hpw ⊢
 refine h_ (d_ (x_ (ar_ rfl rfl) rfl fun r1 hr1 => ?_))
 refine e_ (c_ rfl (h_ ?_))
 cases r1
 ·
  replace hr1 := of_decide_eq_false hr1
  rw [List.take_of_length_le (by omega)] at hq hb hpw
  have hokx : kS_ (Wk.ps w).length wh := ⟨hb, hpw⟩
  refine s_ rfl (au_ rfl (c_ rfl (h_ (h_ (d_ (a_ (g_ rfl) rfl (aI_ (ik_ bu) rfl F_ (fun _ _ _ => by exact trivial) rfl fun r2 hr2 => ?_)))))))
  refine a_ (bS_ rfl) rfl (e_ (c_ rfl ?_))
  cases r2
  ·
   replace hr2 := of_decide_eq_false hr2
   refine p_ rfl (h_ (d_ (a_ (aj_ dL_ rfl rfl) rfl (R_ 1 Z_ rfl rfl rfl rfl rfl rfl (a_ (i_ rfl) rfl (a_ (i_ rfl) rfl (e_ (c_ rfl (D_ ?_)))))))))
   exact dh_ ⟨((Wk.mk [] none 0 (Cl.mk [] none 0 [] none 0)), ([] : List Fc), none, 0, 1), by unfold eH_; rw [if_pos (fun z => absurd z.2 (by assumption))]; exact ⟨rfl, rfl, rfl⟩, ⟨Nat.le_refl _, by simp, fun _ => rfl⟩⟩ (fun aa v h1 h2 => cU_ (us := Wk.cells (Wk.mk [] none 0 (Cl.mk [] none 0 [] none 0))) 1 fg_ aT_ Z_ rfl rfl rfl rfl rfl aa v h1 h2) F_ (fun v _ h => by exact ⟨.inl rfl, .inl rfl, .inl rfl, .inl rfl, trivial⟩)
  ·
   replace hr2 := of_decide_eq_true hr2
   have hbu := hr2
   refine s_ rfl (B_ (c_ rfl (h_ (d_ (a_ (i_ rfl) rfl (e_ (c_ rfl (h_ (h_ ?_)))))))))
   refine d_ (a_ (m_ aE_ rfl rfl rfl bZ_) rfl (a_ (t_ 2 cQ_ rfl rfl rfl) rfl (a_ (ae_ E_ rfl) rfl (a_ (g_ rfl) rfl (e_ (c_ rfl (K_ ?_)))))))
   refine ax_ (ι := {y : Nat × Value × Hp // y.1 ≤ List.length (Wk.ps w) ∧ aS_ 47 10 y.2.1 (List.length (bF_ wh 0 (List.take y.1 (Wk.ps w)))) (List.flatMap Pc.cells (bF_ wh 0 (List.take y.1 (Wk.ps w)))) y.2.2}) (fun y => [(2, .int .i64 bu), (3, zp_ b1 0), (6, zp_ b2 0), (7, .slice none 0 0), (9, .map (some b3)), (12, y.1.2.1), (55, .slice (Wk.pad w) (List.length (Wk.ps w)) (Wk.pcap w)), (56, .int .i64 (List.length (Wk.ps w) : Int)), (57, .int .i64 (y.1.1 : Int))]) (fun y => ((b3, .map es ce) :: ((b2, .cells #[.slice none 0 0, .slice none 0 0, .slice none 0 0] 50 (0, 0)) :: ((b1, .cells #[.slice (Wk.pad w) (List.length (Wk.ps w)) (Wk.pcap w), .slice (Cl.aad (Wk.cl w)) (List.length (Cl.atoms (Wk.cl w))) (Cl.acap (Wk.cl w)), .slice (Cl.fad (Wk.cl w)) (List.length (Cl.facts (Wk.cl w))) (Cl.fcap (Wk.cl w))] 50 (0, 0)) :: y.1.2.2)))) (fun y => [ap_ (Wk.pad w) (List.flatMap Pc.cells (Wk.ps w)), ap_ (Cl.aad (Wk.cl w)) (List.flatMap aL_ (Cl.atoms (Wk.cl w))), ap_ (Cl.fad (Wk.cl w)) (List.flatMap Fc.cells (Cl.facts (Wk.cl w))), ap_ had (List.flatMap fm_ wh), eu_]) (fun y => List.length (Wk.ps w) - y.1.1) ⟨((0 : Nat), (.slice none 0 0), []), by simp, (aS_.nil _ _)⟩ ⟨rfl, rfl, rfl, rfl, rfl, rfl, rfl, rfl, rfl, trivial⟩ (j_ f_ (j_ f_ f_)) (fun _ _ h => h) ?_
   rintro ⟨⟨k, sv_Rpc, H_Rpc⟩, hk, hr_Rpc⟩
   dsimp only at hk hr_Rpc ⊢
   have hkl := dt_ wh 0 (List.take k (Wk.ps w))
   rw [List.length_take] at hkl
   refine h_ (d_ (x_ (ar_ rfl rfl) rfl fun r3 hr3 => ?_))
   refine e_ (c_ rfl (h_ ?_))
   cases r3
   ·
    replace hr3 := of_decide_eq_false hr3
    rw [List.take_of_length_le (by omega)] at hr_Rpc
    have hkl2 := dt_ wh 0 (Wk.ps w)
    refine s_ rfl (au_ rfl (c_ rfl (h_ (d_ (a_ (g_ rfl) rfl (a_ (g_ rfl) rfl (cj_ hr_Rpc (b_ (b_ S_)) fun rad rcap hrad hcrad hmrad hzrad => ?_)))))))
    subst hrad
    refine aa_ (gg_ (bF_ wh 0 (Wk.ps w)) rad rcap bu (fun y hy => hsw y (dF_ _ _ _ y hy)) (by omega) (by omega)) rfl F_ (fun v _ h => by exact ⟨h.1, h.2.2.2.2.2.1, trivial⟩) rfl fun ⟨⟨x1w, e1⟩, hS1⟩ => ?_
    dsimp only
    dsimp only at hS1
    have hlx1w := hS1.len
    refine a_ (g_ rfl) rfl (a_ (V_ rfl rfl) rfl (a_ (V_ rfl rfl) rfl (R_ 1 Z_ rfl rfl rfl rfl rfl rfl (a_ (i_ rfl) rfl (e_ (c_ rfl (h_ (h_ (d_ ?_)))))))))
    refine a_ (g_ rfl) rfl (x_ (bC_ rfl rfl) rfl fun r4 hr4 => ?_)
    refine e_ (c_ rfl ?_)
    cases r4
    ·
     replace hr4 := aQ_ hr4
     have he1 : e1 = 0 := hr4
     refine s_ rfl (B_ (c_ rfl (h_ (d_ (a_ (m_ aE_ rfl rfl rfl ad_) rfl (a_ (X_ 1 bp_ ad_ rfl rfl rfl) rfl (aa_ (hW_ (Wk.cl x1w) (by omega)) rfl F_ (fun v _ h => by exact ⟨h.2.2.1, trivial⟩) rfl fun ⟨⟨mb9, es9, ce9, q9⟩, hE9, hq9⟩ => ?_)))))))
     dsimp only
     dsimp only at hE9 hq9
     refine a_ (i_ rfl) rfl (e_ (c_ rfl (h_ ?_)))
     refine aB_ ((b3, .map es ce) :: ((b1, .cells #[.slice (Wk.pad w) (List.length (Wk.ps w)) (Wk.pcap w), .slice (Cl.aad (Wk.cl w)) (List.length (Cl.atoms (Wk.cl w))) (Cl.acap (Wk.cl w)), .slice (Cl.fad (Wk.cl w)) (List.length (Cl.facts (Wk.cl w))) (Cl.fcap (Wk.cl w))] 50 (0, 0)) :: [])) (by kernel_rfl) ?_
     refine ag_ 5 [1, 2, 3, 4, 5] (by kernel_rfl) (fun _ a b => ⟨Vw.sat.sub (a.perm (j_ (b_ f_) (b_ (b_ f_)))), b⟩) (l_ rfl (m_ aE_ rfl rfl rfl ad_) rfl (l_ rfl (m_ as_ rfl rfl rfl bq_) rfl (l_ rfl (t_ 1 bi_ rfl rfl rfl) rfl (l_ rfl (g_ rfl) rfl (l_ rfl (cd_ rfl rfl) rfl (af_ ?_))))))
     refine eo_ 0 6 rfl rfl (by kernel_rfl) ?_ ?_
     ·
      refine a_ (X_ 2 aT_ Z_ rfl rfl rfl) rfl (e_ (v_ rfl (C_ (fun _ a b => ⟨Vw.sat.sub (a.perm (j_ (b_ f_) (b_ (b_ f_)))), b⟩) (N_ 6 rfl (by kernel_rfl) (aa_ (fo_ (Cl.facts (Wk.cl w)) (Cl.fad (Wk.cl w)) (Cl.fcap (Wk.cl w)) mb9 es9 ce9 q9 hE9 (by omega)) rfl f_ (fun v _ h => by exact ⟨h.2.2.2.2.2.2.1, trivial⟩) rfl fun ⟨⟨nad, ncap⟩, hn1, hn2, hn3⟩ => ?_)))))
      dsimp only
      dsimp only at hn1 hn2 hn3
      refine e_ (v_ rfl (C_ (fun _ a b => ⟨Vw.sat.sub (a.perm (j_ (b_ f_) (b_ (b_ f_)))), b.2⟩) (N_ 7 rfl (by kernel_rfl) (R_ 2 Z_ rfl rfl rfl rfl rfl rfl (e_ (v_ rfl (C_ (fun _ a b => ⟨Vw.sat.sub (a.perm (j_ (b_ f_) (b_ (b_ f_)))), b.2⟩) (ag_ 0 [8, 9] (by kernel_rfl) (fun _ a b => ⟨Vw.sat.sub (a.perm (j_ (b_ f_) (b_ (b_ f_)))), b.2⟩) (l_ rfl (i_ rfl) rfl ?_)))))))))
      refine l_ rfl (i_ rfl) rfl (af_ (Y_ (by kernel_rfl) (c_ rfl (D_ ?_))))
      exact dh_ ⟨(x1w, (bm_ (Cl.facts (Wk.cl w)) q9), nad, ncap, 0), by unfold eH_; rw [if_neg (fun z => z ⟨hokx, hbu⟩)]; rw [if_pos rfl]; exact ⟨he1 ▸ hS1, dl_ hq9⟩, ⟨hn1, hn2, hn3⟩⟩ (fun aa v h1 h2 => cU_ (us := Wk.cells x1w) 2 fg_ aT_ Z_ rfl rfl rfl rfl rfl aa v h1 h2) F_ (fun v _ h => by exact ⟨h.2.1, h.2.2.1, h.2.2.2.1, h.1, trivial⟩)
     ·
      refine aa_ (fo_ (Cl.facts (Wk.cl w)) (Cl.fad (Wk.cl w)) (Cl.fcap (Wk.cl w)) mb9 es9 ce9 q9 hE9 (by omega)) rfl f_ (fun v _ h => by exact ⟨h.2.2.2.2.2.2.1, trivial⟩) rfl fun ⟨⟨nad, ncap⟩, hn1, hn2, hn3⟩ => ?_
      dsimp only
      dsimp only at hn1 hn2 hn3
      refine e_ (v_ rfl (C_ (fun _ a b => ⟨Vw.sat.sub (a.perm (j_ (b_ f_) (b_ (b_ f_)))), b.2⟩) (N_ 0 rfl (by kernel_rfl) (a_ (X_ 2 aT_ Z_ rfl rfl rfl) rfl (e_ (v_ rfl (C_ (fun _ a b => ⟨Vw.sat.sub (a.perm (j_ (b_ f_) (b_ (b_ f_)))), b.2⟩) (N_ 7 rfl (by kernel_rfl) (R_ 2 Z_ rfl rfl rfl rfl rfl rfl ?_)))))))))
      refine e_ (v_ rfl (C_ (fun _ a b => ⟨Vw.sat.sub (a.perm (j_ (b_ f_) (b_ (b_ f_)))), b.2⟩) (ag_ 0 [8, 9] (by kernel_rfl) (fun _ a b => ⟨Vw.sat.sub (a.perm (j_ (b_ f_) (b_ (b_ f_)))), b.2⟩) (l_ rfl (i_ rfl) rfl (l_ rfl (i_ rfl) rfl (af_ (Y_ (by kernel_rfl) (c_ rfl (D_ ?_)))))))))
      exact dh_ ⟨(x1w, (bm_ (Cl.facts (Wk.cl w)) q9), nad, ncap, 0), by unfold eH_; rw [if_neg (fun z => z ⟨hokx, hbu⟩)]; rw [if_pos rfl]; exact ⟨he1 ▸ hS1, dl_ hq9⟩, ⟨hn1, hn2, hn3⟩⟩ (fun aa v h1 h2 => cU_ (us := Wk.cells x1w) 2 fg_ aT_ Z_ rfl rfl rfl rfl rfl aa v h1 h2) F_ (fun v _ h => by exact ⟨h.2.1, h.2.2.1, h.2.2.2.1, h.1, trivial⟩)
    ·
     replace hr4 := aP_ hr4
     refine p_ rfl (h_ (d_ (a_ (aj_ dL_ rfl rfl) rfl (a_ (g_ rfl) rfl (R_ 1 Z_ rfl rfl rfl rfl rfl rfl (a_ (i_ rfl) rfl (a_ (i_ rfl) rfl (e_ (c_ rfl ?_)))))))))
     refine D_ ?_
     exact dh_ ⟨((Wk.mk [] none 0 (Cl.mk [] none 0 [] none 0)), ([] : List Fc), none, 0, e1), by unfold eH_; rw [if_neg (fun z => z ⟨hokx, hbu⟩)]; rw [if_neg (by assumption)]; exact ⟨jx_ hS1 (by assumption), rfl⟩, ⟨Nat.le_refl _, by simp, fun _ => rfl⟩⟩ (fun aa v h1 h2 => cU_ (us := Wk.cells (Wk.mk [] none 0 (Cl.mk [] none 0 [] none 0))) 1 fg_ aT_ Z_ rfl rfl rfl rfl rfl aa v h1 h2) F_ (fun v _ h => by exact ⟨.inl rfl, .inl rfl, .inl rfl, .inl rfl, trivial⟩)
   ·
    replace hr3 := of_decide_eq_true hr3
    have hlx2 : k < List.length (Wk.ps w) := by omega
    obtain ⟨x2, hx2⟩ : ∃ e0, (Wk.ps w)[k]? = some e0 := ⟨_, List.getElem?_eq_getElem hlx2⟩
    have hmx2 : x2 ∈ (Wk.ps w) := List.mem_of_getElem? hx2
    refine p_ rfl (B_ (c_ rfl (h_ (K_ (h_ (d_ (a_ (g_ rfl) rfl (a_ (al_ E_ Q_ rfl rfl (fun v _ h => aG_ (n := 10) Pc.cells_len (by decide) (by exact h.1) hx2) (by omega) (by first | omega | (simp; done))) rfl (a_ (aK_ (ad := (Wk.pad w)) (us := Pc.cells x2) bc_ Q_ rfl (fun v _ h => by exact h.1) (Pc.cells_len _) (ao_ Pc.cells_len hx2)) rfl ?_)))))))))
    refine ah_ aJ_ rfl fun b4 => ?_
    refine a_ (i_ rfl) rfl (R_ 0 Q_ rfl rfl rfl rfl rfl rfl (e_ (c_ rfl (h_ (d_ (a_ (g_ rfl) rfl (a_ (g_ rfl) rfl (x_ (dq_ (k := (k : Int)) keyI Tryz.runUnderlying127 cM_ rfl rfl hE (fun v h _ => (h.own _ (List.mem_of_getElem? (i := 1) rfl)).1)) rfl fun r5 hr5 => ?_))))))))
    refine a_ (bS_ rfl) rfl (e_ (c_ rfl ?_))
    cases r5
    ·
     replace hr5 := dF hr5
     refine p_ rfl (d_ (a_ (g_ rfl) rfl (a_ (X_ 0 bc_ Q_ rfl rfl rfl) rfl (aY_ E_ Q_ aJ_ rfl rfl rfl rfl rfl rfl fun b5 => ?_))))
     refine aU_ (news := List.flatMap Pc.cells [x2]) et_ hr_Rpc rfl rfl (b_ (b_ (b_ (b_ S_)))) rfl (cn_ 0 rfl) (fun u hu => bg_ Pc.cells_one hu) (by simp only [maxLen]; ((try simp only [List.length_append, List.length_cons, List.length_nil]); omega)) (by ((try simp only [List.length_append, List.length_cons, List.length_nil]); omega)) rfl fun sv1 Hr1 hr1 => ?_
     refine ay_ List.perm_append_comm ?_
     have hq1 : aS_ 47 10 sv1 (List.length ((bF_ wh 0 (List.take k (Wk.ps w))) ++ [x2])) (List.flatMap Pc.cells ((bF_ wh 0 (List.take k (Wk.ps w))) ++ [x2])) Hr1 := by rw [List.length_append, List.flatMap_append]; exact hr1
     refine a_ (i_ rfl) rfl (e_ (c_ rfl (d_ (a_ (P_ rfl rfl rfl (an_ (by omega) (by omega))) rfl (a_ (g_ rfl) rfl (e_ (v_ rfl ?_)))))))
     exact ai_ ⟨(k + 1, sv1, Hr1), hlx2, (by rw [ef_ hx2, if_neg (fun z => absurd ((hq _).2 z) (by assumption))]; exact hq1)⟩ (by dsimp only; omega) ⟨rfl, rfl, rfl, rfl, rfl, rfl, rfl, rfl, rfl, trivial⟩ (j_ (b_ (b_ f_)) (j_ (b_ (b_ f_)) (j_ (b_ (b_ f_)) (b_ S_)))) (fun _ _ h => h)
    ·
     replace hr5 := dT hr5
     refine s_ rfl (B_ (c_ rfl (d_ (a_ (P_ rfl rfl rfl (an_ (by omega) (by omega))) rfl (a_ (g_ rfl) rfl (e_ (v_ rfl ?_)))))))
     exact ai_ ⟨(k + 1, sv_Rpc, H_Rpc), hlx2, (by rw [ef_ hx2, if_pos ((hq _).1 (by assumption)), List.append_nil]; exact hr_Rpc)⟩ (by dsimp only; omega) ⟨rfl, rfl, rfl, rfl, rfl, rfl, rfl, rfl, rfl, trivial⟩ (j_ (b_ f_) (j_ (b_ f_) (j_ (b_ f_) S_))) (fun _ _ h => h)
 ·
  replace hr1 := of_decide_eq_true hr1
  have hlx1 : i < List.length wh := by omega
  obtain ⟨x1, hx1⟩ : ∃ e0, wh[i]? = some e0 := ⟨_, List.getElem?_eq_getElem hlx1⟩
  have hmx1 : x1 ∈ wh := List.mem_of_getElem? hx1
  refine p_ rfl (B_ (c_ rfl (h_ (K_ (h_ (d_ (a_ (g_ rfl) rfl (a_ (al_ cg_ T_ rfl rfl (fun v _ h => aG_ (n := 1) eC_ (by decide) (by exact h.2.2.2.1) hx1) (by omega) (by first | omega | (simp; done))) rfl (a_ (bu_ (ad := had) O_ rfl (fun v _ h => by exact h.2.2.2.1) (ao_ eC_ hx1 0 _ rfl)) rfl ?_)))))))))
  refine a_ (i_ rfl) rfl (a_ (i_ rfl) rfl (e_ (c_ rfl (h_ (h_ (d_ (a_ (g_ rfl) rfl (x_ (ar_ rfl rfl) rfl fun r6 hr6 => ?_))))))))
  refine a_ (g_ rfl) rfl ?_
  cases r6
  ·
   replace hr6 := of_decide_eq_false hr6
   refine r_ rfl rfl (a_ (g_ rfl) rfl (r_ rfl rfl (a_ (m_ aE_ rfl rfl rfl bZ_) rfl (r_ rfl rfl (a_ (t_ 2 cQ_ rfl rfl rfl) rfl (r_ rfl rfl (a_ (ae_ E_ rfl) rfl (r_ rfl rfl (x_ (de_ rfl rfl) rfl fun r7 hr7 => ?_)))))))))
   refine a_ (M_ rfl rfl) rfl (a_ (g_ rfl) rfl ?_)
   cases r7
   ·
    replace hr7 := of_decide_eq_false hr7
    refine r_ rfl rfl (a_ (g_ rfl) rfl (r_ rfl rfl (x_ (bL_ rfl rfl) rfl fun r8 hr8 => ?_)))
    refine r_ rfl rfl (a_ (g_ rfl) rfl ?_)
    cases r8
    ·
     replace hr8 := of_decide_eq_false hr8
     refine y_ rfl rfl rfl rfl (y_ rfl rfl rfl rfl (y_ rfl rfl rfl rfl (y_ rfl rfl rfl rfl (y_ rfl rfl rfl rfl (y_ rfl rfl rfl rfl (y_ rfl rfl rfl rfl (r_ rfl rfl (a_ (M_ rfl rfl) rfl (a_ (M_ rfl rfl) rfl ?_)))))))))
     refine e_ (c_ rfl (s_ rfl (B_ (c_ rfl (d_ (a_ (g_ rfl) rfl (a_ (g_ rfl) rfl (ey_ (k := x1) 0 keyI (.inr rfl) Tryz.runUnderlying127 rfl rfl rfl rfl hE fun ej1 cj1 hj1 => ?_))))))))
     refine e_ (c_ rfl (d_ (a_ (P_ rfl rfl rfl (an_ (by omega) (by omega))) rfl (a_ (g_ rfl) rfl (e_ (v_ rfl ?_))))))
     exact ai_ ⟨(i + 1, ej1, cj1, (if x1 ∈ q then q else q ++ [x1])), hlx1, hj1, hD_ hq hx1, fun x hx => by rw [List.take_add_one, hx1] at hx; simp only [Option.toList_some, List.mem_append, List.mem_singleton] at hx; rcases hx with hx | rfl; exact hb x hx; omega, lb_ (lt := fun x y : Int => x < y) Int.lt_trans hpw hx1 (fun a hja ha => by omega)⟩ (by dsimp only; omega) ⟨rfl, rfl, rfl, rfl, rfl, rfl, rfl, rfl, rfl, trivial⟩ (j_ f_ (j_ f_ f_)) (fun _ _ h => h)
    ·
     replace hr8 := of_decide_eq_true hr8
     have hly1 : (i - 1 : Nat) < List.length wh := by omega
     obtain ⟨y1, hy1⟩ : ∃ e0, wh[(i - 1 : Nat)]? = some e0 := ⟨_, List.getElem?_eq_getElem hly1⟩
     have hmy1 : y1 ∈ wh := List.mem_of_getElem? hy1
     refine r_ rfl rfl (a_ (g_ rfl) rfl (r_ rfl rfl (a_ (g_ rfl) rfl (r_ rfl rfl (a_ (bG_ (P_ rfl rfl rfl (an_ (by omega) (by omega))) (show Value.int .i64 ((i : Int) - 1) = Value.int .i64 ((i - 1 : Nat) : Int) from congrArg _ (by omega))) rfl (r_ rfl rfl (a_ (al_ cg_ T_ rfl rfl (fun v _ h => aG_ (n := 1) eC_ (by decide) (by exact h.2.2.2.1) hy1) (by omega) (by first | omega | (simp; done))) rfl (r_ rfl rfl (a_ (bu_ (ad := had) O_ rfl (fun v _ h => by exact h.2.2.2.1) (ao_ eC_ hy1 0 _ rfl)) rfl ?_)))))))))
     refine r_ rfl rfl (a_ (g_ rfl) rfl (r_ rfl rfl (x_ (de_ rfl rfl) rfl fun r9 hr9 => ?_)))
     refine r_ rfl rfl (a_ (W_ rfl rfl) rfl (a_ (M_ rfl rfl) rfl (e_ (c_ rfl ?_))))
     cases r9
     ·
      replace hr9 := of_decide_eq_false hr9
      refine s_ rfl (B_ (c_ rfl (d_ (a_ (g_ rfl) rfl (a_ (g_ rfl) rfl (ey_ (k := x1) 0 keyI (.inr rfl) Tryz.runUnderlying127 rfl rfl rfl rfl hE fun ej2 cj2 hj2 => ?_))))))
      refine e_ (c_ rfl (d_ (a_ (P_ rfl rfl rfl (an_ (by omega) (by omega))) rfl (a_ (g_ rfl) rfl (e_ (v_ rfl ?_))))))
      exact ai_ ⟨(i + 1, ej2, cj2, (if x1 ∈ q then q else q ++ [x1])), hlx1, hj2, hD_ hq hx1, fun x hx => by rw [List.take_add_one, hx1] at hx; simp only [Option.toList_some, List.mem_append, List.mem_singleton] at hx; rcases hx with hx | rfl; exact hb x hx; omega, lb_ (lt := fun x y : Int => x < y) Int.lt_trans hpw hx1 (fun a hja ha => by rw [hy1] at ha; cases ha; omega)⟩ (by dsimp only; omega) ⟨rfl, rfl, rfl, rfl, rfl, rfl, rfl, rfl, rfl, trivial⟩ (j_ f_ (j_ f_ f_)) (fun _ _ h => h)
     ·
      replace hr9 := of_decide_eq_true hr9
      refine p_ rfl (h_ (d_ (a_ (aj_ dL_ rfl rfl) rfl (R_ 1 Z_ rfl rfl rfl rfl rfl rfl (a_ (i_ rfl) rfl (a_ (i_ rfl) rfl (e_ (c_ rfl (D_ ?_)))))))))
      exact dh_ ⟨((Wk.mk [] none 0 (Cl.mk [] none 0 [] none 0)), ([] : List Fc), none, 0, 1), by unfold eH_; rw [if_pos (fun z => by first | (have := (z.1.1 x1 hmx1); omega) | exact mK_ (lt := fun x y : Int => x < y) (by omega) hy1 hx1 (by omega) z.1.2)]; exact ⟨rfl, rfl, rfl⟩, ⟨Nat.le_refl _, by simp, fun _ => rfl⟩⟩ (fun aa v h1 h2 => cU_ (us := Wk.cells (Wk.mk [] none 0 (Cl.mk [] none 0 [] none 0))) 1 fg_ aT_ Z_ rfl rfl rfl rfl rfl aa v h1 h2) F_ (fun v _ h => by exact ⟨.inl rfl, .inl rfl, .inl rfl, .inl rfl, trivial⟩)
   ·
    replace hr7 := of_decide_eq_true hr7
    refine y_ rfl rfl rfl rfl (y_ rfl rfl rfl rfl (y_ rfl rfl rfl rfl (y_ rfl rfl rfl rfl (y_ rfl rfl rfl rfl (y_ rfl rfl rfl rfl (y_ rfl rfl rfl rfl (y_ rfl rfl rfl rfl (y_ rfl rfl rfl rfl (y_ rfl rfl rfl rfl ?_)))))))))
    refine y_ rfl rfl rfl rfl (a_ (W_ rfl rfl) rfl (e_ (c_ rfl (p_ rfl (h_ (d_ (a_ (aj_ dL_ rfl rfl) rfl (R_ 1 Z_ rfl rfl rfl rfl rfl rfl (a_ (i_ rfl) rfl ?_)))))))))
    refine a_ (i_ rfl) rfl (e_ (c_ rfl (D_ ?_)))
    exact dh_ ⟨((Wk.mk [] none 0 (Cl.mk [] none 0 [] none 0)), ([] : List Fc), none, 0, 1), by unfold eH_; rw [if_pos (fun z => by first | (have := (z.1.1 x1 hmx1); omega) | exact mK_ (lt := fun x y : Int => x < y) (by omega) hy1 hx1 (by omega) z.1.2)]; exact ⟨rfl, rfl, rfl⟩, ⟨Nat.le_refl _, by simp, fun _ => rfl⟩⟩ (fun aa v h1 h2 => cU_ (us := Wk.cells (Wk.mk [] none 0 (Cl.mk [] none 0 [] none 0))) 1 fg_ aT_ Z_ rfl rfl rfl rfl rfl aa v h1 h2) F_ (fun v _ h => by exact ⟨.inl rfl, .inl rfl, .inl rfl, .inl rfl, trivial⟩)
  ·
   replace hr6 := of_decide_eq_true hr6
   refine y_ rfl rfl rfl rfl (y_ rfl rfl rfl rfl (y_ rfl rfl rfl rfl (y_ rfl rfl rfl rfl (y_ rfl rfl rfl rfl (a_ (W_ rfl rfl) rfl (a_ (g_ rfl) rfl (y_ rfl rfl rfl rfl (y_ rfl rfl rfl rfl (y_ rfl rfl rfl rfl ?_)))))))))
   refine y_ rfl rfl rfl rfl (y_ rfl rfl rfl rfl (y_ rfl rfl rfl rfl (y_ rfl rfl rfl rfl (y_ rfl rfl rfl rfl (y_ rfl rfl rfl rfl (y_ rfl rfl rfl rfl (y_ rfl rfl rfl rfl (a_ (W_ rfl rfl) rfl (e_ ?_)))))))))
   refine c_ rfl (p_ rfl (h_ (d_ (a_ (aj_ dL_ rfl rfl) rfl (R_ 1 Z_ rfl rfl rfl rfl rfl rfl (a_ (i_ rfl) rfl (a_ (i_ rfl) rfl (e_ (c_ rfl ?_)))))))))
   refine D_ ?_
   exact dh_ ⟨((Wk.mk [] none 0 (Cl.mk [] none 0 [] none 0)), ([] : List Fc), none, 0, 1), by unfold eH_; rw [if_pos (fun z => by first | (have := (z.1.1 x1 hmx1); omega) | exact mK_ (lt := fun x y : Int => x < y) (by omega) hy1 hx1 (by omega) z.1.2)]; exact ⟨rfl, rfl, rfl⟩, ⟨Nat.le_refl _, by simp, fun _ => rfl⟩⟩ (fun aa v h1 h2 => cU_ (us := Wk.cells (Wk.mk [] none 0 (Cl.mk [] none 0 [] none 0))) 1 fg_ aT_ Z_ rfl rfl rfl rfl rfl aa v h1 h2) F_ (fun v _ h => by exact ⟨.inl rfl, .inl rfl, .inl rfl, .inl rfl, trivial⟩)
end Go.Proofs.YtpdbbglpbngeiaaGreatDoor
namespace Go.Proofs.YtpdbbglpbngeiaaGreatDoor
open Go Go.Sx Go.Proofs
attribute [local irreducible] Code.wp wpList wpAnyH
open Go.Vs
theorem og_ (p : List Pc) (pad : Option Addr) (pcap : Nat) (hp : p.length ≤ 1099511627776) (hbig : ∀ x ∈ p, x.big) : Tri Tryz.prog 31 #[.slice pad (List.length p) pcap] [] [ap_ pad (List.flatMap Pc.cells p)] (fun b : {b : Bool // b = true → p.length ≤ 30 ∧ ∀ x ∈ p, x.sm} => .bool b.1) (fun _ => []) (fun _ => []) := by
  refine J_ Tryz.func31 rfl rfl Tryz.ntmps31 rfl fun v0 => ?_
  refine h_ (d_ (a_ (i_ rfl) rfl (e_ (c_ rfl (h_ (d_ (a_ (i_ rfl) rfl (e_ (c_ rfl ?_)))))))))
  refine h_ (h_ (d_ (a_ (g_ rfl) rfl (a_ (ae_ E_ rfl) rfl (a_ (g_ rfl) rfl (e_ (c_ rfl (K_ ?_))))))))
  refine ax_ (ι := {y : Nat × Int // y.1 ≤ List.length p ∧ (List.length p ≤ 30 → y.2 = fc_ (List.take y.1 p))}) (fun y => [(0, .slice pad (List.length p) pcap), (3, .int .i64 y.1.2), (6, .slice pad (List.length p) pcap), (7, .int .i64 (List.length p : Int)), (8, .int .i64 (y.1.1 : Int))]) (fun y => ([])) (fun y => [ap_ pad (List.flatMap Pc.cells p)]) (fun y => List.length p - y.1.1) ⟨((0 : Nat), 0), by simp, fun _ => rfl⟩ ⟨rfl, rfl, rfl, rfl, rfl, trivial⟩ F_ (fun _ _ h => h) ?_
  rintro ⟨⟨i, w⟩, hi, hw⟩
  dsimp only at hi hw ⊢
  refine h_ (d_ (x_ (ar_ rfl rfl) rfl fun r1 hr1 => ?_))
  refine e_ (c_ rfl (h_ ?_))
  cases r1
  · skip
    replace hr1 := of_decide_eq_false hr1
    refine s_ rfl (au_ rfl (c_ rfl (h_ (d_ (a_ (g_ rfl) rfl (a_ (ae_ E_ rfl) rfl (x_ (cS_ rfl rfl) rfl fun r2 hr2 => ?_)))))))
    refine a_ (g_ rfl) rfl ?_
    cases r2
    · skip
      replace hr2 := of_decide_eq_false hr2
      refine y_ rfl rfl rfl rfl (y_ rfl rfl rfl rfl (a_ (M_ rfl rfl) rfl (a_ (i_ rfl) rfl (e_ (c_ rfl (D_ ?_))))))
      exact aA_ Tryz.results31 ⟨false, fun h => by cases h⟩ rfl F_ (fun _ _ _ => trivial)
    · skip
      replace hr2 := of_decide_eq_true hr2
      refine r_ rfl rfl (a_ (g_ rfl) rfl (r_ rfl rfl (x_ (cS_ rfl rfl) rfl fun r3 hr3 => ?_)))
      refine a_ (W_ rfl rfl) rfl (a_ (i_ rfl) rfl (e_ (c_ rfl (D_ ?_))))
      exact aA_ Tryz.results31 ⟨r3, fun h => ⟨by omega, by rw [h] at hr3; have hle := of_decide_eq_true hr3; rw [hw (by omega), List.take_of_length_le (by omega)] at hle; exact lc_ hle (by decide)⟩⟩ rfl F_ (fun _ _ _ => trivial)
  · skip
    replace hr1 := of_decide_eq_true hr1
    have hlx1 : i < List.length p := by omega
    obtain ⟨x1, hx1⟩ : ∃ e0, p[i]? = some e0 := ⟨_, List.getElem?_eq_getElem hlx1⟩
    have hmx1 : x1 ∈ p := List.mem_of_getElem? hx1
    obtain ⟨q1, q2, q3, q4, q5, q6⟩ := hbig x1 hmx1
    refine p_ rfl (B_ (c_ rfl (h_ (K_ (h_ (d_ (a_ (al_ E_ Q_ rfl rfl (fun v _ h => aG_ (n := 10) Pc.cells_len (by decide) (by exact h.1) hx1) (by omega) (by first | omega | (simp; done))) rfl (a_ (aK_ (ad := pad) (us := Pc.cells x1) bc_ Q_ rfl (fun v _ h => by exact h.1) (Pc.cells_len _) (ao_ Pc.cells_len hx1)) rfl (ah_ aJ_ rfl fun b1 => ?_)))))))))
    refine R_ 0 Q_ rfl rfl rfl rfl rfl rfl (e_ (c_ rfl (d_ (a_ (g_ rfl) rfl (a_ (m_ z_ rfl rfl rfl o_) rfl (a_ (t_ 0 u_ rfl rfl rfl) rfl (a_ (cu_ ak_ rfl) rfl (a_ (m_ z_ rfl rfl rfl o_) rfl (a_ (t_ 0 u_ rfl rfl rfl) rfl ?_)))))))))
    refine a_ (cu_ ak_ rfl) rfl (a_ (P_ rfl rfl rfl (an_ (by omega) (by omega))) rfl (a_ (m_ z_ rfl rfl rfl o_) rfl (a_ (t_ 0 u_ rfl rfl rfl) rfl (a_ (cu_ ak_ rfl) rfl (a_ (P_ rfl rfl rfl (an_ (by omega) (by omega))) rfl (a_ (m_ z_ rfl rfl rfl o_) rfl (a_ (t_ 0 u_ rfl rfl rfl) rfl (a_ (cu_ ak_ rfl) rfl (a_ (P_ rfl rfl rfl (an_ (by omega) (by omega))) rfl ?_)))))))))
    refine a_ (m_ z_ rfl rfl rfl o_) rfl (a_ (t_ 0 u_ rfl rfl rfl) rfl (a_ (cu_ ak_ rfl) rfl (a_ (P_ rfl rfl rfl (an_ (by omega) (by omega))) rfl (a_ (m_ z_ rfl rfl rfl o_) rfl (a_ (t_ 0 u_ rfl rfl rfl) rfl (a_ (cu_ ak_ rfl) rfl (a_ (P_ rfl rfl rfl (an_ (by omega) (by omega))) rfl (a_ (mo_ rfl rfl) rfl (a_ (i_ rfl) rfl ?_)))))))))
    refine e_ (c_ rfl (d_ (a_ (P_ rfl rfl rfl (an_ (by omega) (by omega))) rfl (a_ (g_ rfl) rfl (e_ (v_ rfl ?_))))))
    exact ai_ ⟨(i + 1, (IntKind.wrap .i64 (w + (((((((Pc.a x1).length : Int) + ((Pc.b x1).length : Int)) + ((Pc.c x1).length : Int)) + ((Pc.r x1).length : Int)) + ((Pc.s x1).length : Int)) + ((Pc.t x1).length : Int))))), hlx1, fun h40 => by rw [lH_ hx1, hw h40]; have hq := jL_ (l := List.take i p) (fun x hx => hbig x (List.mem_of_mem_take hx)); rw [List.length_take] at hq; unfold hx_; exact an_ (by omega) (by omega)⟩ (by dsimp only; omega) ⟨rfl, rfl, rfl, rfl, rfl, trivial⟩ F_ (fun _ _ h => h)
theorem oj_ : Elt Tryz.prog 58 3 1 8 := kg_ Tryz.underlying58 (z := .int .i64 0) (by kernel_rfl) rfl (by decide)
def ih_ (m : Int) (i : Nat) : Int := IntKind.wrap .u32 ((BitVec.ofInt 32 (m.fdiv (2 ^ i)) &&& BitVec.ofInt 32 1).toNat : Int)
theorem oo_ (m : Int) (i : Nat) : ih_ m i = 0 ∨ ih_ m i = 1 := by
  unfold ih_
  have h : (BitVec.ofInt 32 (m.fdiv (2 ^ i)) &&& BitVec.ofInt 32 1).toNat < 2 := by
    rw [BitVec.toNat_and, show (BitVec.ofInt 32 1).toNat = 1 from rfl, Nat.and_one_is_mod]
    exact Nat.mod_lt _ (by decide)
  generalize (BitVec.ofInt 32 (m.fdiv (2 ^ i)) &&& BitVec.ofInt 32 1).toNat = k at h
  have : k = 0 ∨ k = 1 := by omega
  rcases this with rfl | rfl
  · exact .inl rfl
  · exact .inr rfl
section
variable {P : Program} {N : Nat} {fr : Fr} {H : Hp} {Γ : List Fct} {ty : TypeId}
theorem ii_ {t t' : TypeId} {x y : Operand} {ky : IntKind} {m : Int} {i : Nat} (hx : Fr.ev fr x = some (.int .u32 m)) (hy : Fr.ev fr y = some (.int ky (i : Int))) (hi : i < 32) : Yld P N fr H Γ (.binOp .shr t x y t') ty (.int .u32 (m.fdiv (2 ^ i))) :=
  fun a v h1 _ _ _ _ _ => by
    have e1 : ¬ ((i : Int) < 0) := by omega
    have e2 : min i 32 = i := by omega
    have e3 : (0 : Int) ≤ 2 ^ i := Int.pow_nonneg (by decide)
    simp [execOp, h1.ev hx, h1.ev hy, eqGuard, binOp, Op.shift, e1, IntKind.bits, e2, Int.fdiv_eq_ediv_of_nonneg _ e3]
theorem kV_ {t t' : TypeId} {x y : Operand} {m : Int} {i : Nat} (hx : Fr.ev fr x = some (.int .u32 (m.fdiv (2 ^ i)))) (hy : Fr.ev fr y = some (.int .u32 1)) : Yld P N fr H Γ (.binOp .and t x y t') ty (.int .u32 (ih_ m i)) :=
  fun a v h1 _ _ _ _ _ => by
    have e : Op.intBits .and .u32 (m.fdiv (2 ^ i)) 1 = Sem.pure (.int .u32 (ih_ m i)) := rfl
    simp only [execOp, h1.ev hx, h1.ev hy, eqGuard, binOp, e]
    simp
end
def cK_ (m : Int) (n : Nat) : List Int := ((List.range n).filter fun i => decide (i < 32 ∧ ih_ m i = 1)).map fun (i : Nat) => (i : Int)
theorem fE_ (m : Int) (n : Nat) : cK_ m (n + 1) = cK_ m n ++ (if n < 32 ∧ ih_ m n = 1 then [(n : Int)] else []) := by
  unfold cK_
  rw [List.range_succ, List.filter_append, List.map_append]
  by_cases h : n < 32 ∧ ih_ m n = 1 <;> simp [h]
theorem kd_ (m : Int) (n : Nat) : (cK_ m n).length ≤ n := by
  unfold cK_
  rw [List.length_map]
  have := List.length_filter_le (fun i => decide (i < 32 ∧ ih_ m i = 1)) (List.range n)
  rwa [List.length_range] at this
theorem fn_ (m : Int) (n : Nat) (x : Int) : x ∈ cK_ m n ↔ ∃ i : Nat, x = (i : Int) ∧ i < n ∧ i < 32 ∧ ih_ m i = 1 := by
  unfold cK_
  rw [List.mem_map]
  constructor
  · rintro ⟨i, h, rfl⟩
    rw [List.mem_filter, List.mem_range, decide_eq_true_eq] at h
    exact ⟨i, rfl, h.1, h.2.1, h.2.2⟩
  · rintro ⟨i, rfl, h1, h2, h3⟩
    exact ⟨i, List.mem_filter.2 ⟨List.mem_range.2 h1, decide_eq_true ⟨h2, h3⟩⟩, rfl⟩
theorem od_ (m : Int) (n : Nat) : kS_ n (cK_ m n) := by
  refine ⟨fun x hx => ?_, ?_⟩
  · obtain ⟨i, rfl, h1, _⟩ := (fn_ m n x).1 hx
    omega
  · induction n with
    | zero => simp [cK_]
    | succ n ih =>
      rw [fE_, List.pairwise_append]
      refine ⟨ih, by split <;> simp, fun x hx y hy => ?_⟩
      obtain ⟨i, rfl, h1, _⟩ := (fn_ m n x).1 hx
      split at hy
      · simp at hy; subst hy; show (i : Int) < n; omega
      · simp at hy
theorem lX_ (n : Nat) (m : Int) (hn : n ≤ 1000000000) : Tri Tryz.prog 43 #[.int .i64 (n : Int), .int .u32 m] [] [] (fun y : {y : Option Addr × Nat // ((cK_ m n)).length ≤ y.2 ∧ y.2 ≤ maxLen ∧ (y.1 = none → y.2 = 0)} => .slice y.1.1 ((cK_ m n)).length y.1.2) (fun _ => []) (fun y => [ap_ y.1.1 (((cK_ m n)).flatMap fm_)]) := by
 refine J_ Tryz.func43 rfl rfl Tryz.ntmps43 rfl fun v0 => ?_
 refine h_ (d_ (a_ (i_ rfl) rfl (e_ (c_ rfl (h_ (d_ (a_ (i_ rfl) rfl (e_ (c_ rfl ?_)))))))))
 refine h_ (h_ (d_ (a_ (g_ rfl) rfl (a_ (g_ rfl) rfl (e_ (c_ rfl (K_ ?_)))))))
 refine ax_ (ι := {y : Nat × Value × Hp // y.1 ≤ n ∧ aS_ 3 1 y.2.1 (List.length (cK_ m y.1)) (List.flatMap fm_ (cK_ m y.1)) y.2.2}) (fun y => [(1, .int .u32 m), (4, .slice none 0 0), (5, y.1.2.1), (7, .int .i64 (n : Int)), (8, .int .i64 (y.1.1 : Int))]) (fun y => (y.1.2.2)) (fun y => []) (fun y => n - y.1.1) ⟨((0 : Nat), (.slice none 0 0), []), Nat.zero_le _, (aS_.nil _ _)⟩ ⟨rfl, rfl, rfl, rfl, rfl, trivial⟩ F_ (fun _ _ _ => trivial) ?_
 rintro ⟨⟨i, sv_Rint, H_Rint⟩, hi, hr_Rint⟩
 dsimp only at hi hr_Rint ⊢
 have hil := kd_ m i
 refine h_ (d_ (x_ (ar_ rfl rfl) rfl fun r1 hr1 => ?_))
 refine e_ (c_ rfl (h_ ?_))
 cases r1
 ·
  replace hr1 := of_decide_eq_false hr1
  refine s_ rfl (au_ rfl (c_ rfl (h_ (d_ (a_ (g_ rfl) rfl (a_ (i_ rfl) rfl (e_ (c_ rfl (D_ ?_)))))))))
  have ein : i = n := by omega
  subst ein
  refine cj_ hr_Rint aO_ fun ad2 cp2 had2 hcad2 hmad2 hzad2 => ?_
  exact aA_ Tryz.results43 ⟨(ad2, cp2), hcad2, hmad2, hzad2⟩ (eU_ rfl had2) F_ (fun v _ h => ⟨h.1, trivial⟩)
 ·
  replace hr1 := of_decide_eq_true hr1
  refine p_ rfl (B_ (c_ rfl (h_ (K_ (h_ (d_ (a_ (g_ rfl) rfl (a_ (i_ rfl) rfl (e_ ?_)))))))))
  refine c_ rfl (h_ (d_ (a_ (g_ rfl) rfl (x_ (ar_ rfl rfl) rfl fun r2 hr2 => ?_))))
  refine a_ (g_ rfl) rfl ?_
  cases r2
  ·
   replace hr2 := of_decide_eq_false hr2
   refine y_ rfl rfl rfl rfl (y_ rfl rfl rfl rfl (y_ rfl rfl rfl rfl (y_ rfl rfl rfl rfl (y_ rfl rfl rfl rfl (a_ (M_ rfl rfl) rfl (e_ (c_ rfl (s_ rfl (B_ ?_)))))))))
   refine c_ rfl (d_ (a_ (P_ rfl rfl rfl (an_ (by omega) (by omega))) rfl (a_ (g_ rfl) rfl (e_ (v_ rfl ?_)))))
   exact ai_ ⟨(i + 1, sv_Rint, H_Rint), by omega, (by rw [fE_, if_neg (fun z => by first | exact absurd z.2 (by assumption) | omega), List.append_nil]; exact hr_Rint)⟩ (by dsimp only; omega) ⟨rfl, rfl, rfl, rfl, rfl, trivial⟩ aO_ (fun _ _ _ => trivial)
  ·
   replace hr2 := of_decide_eq_true hr2
   refine r_ rfl rfl (a_ (g_ rfl) rfl (r_ rfl rfl (a_ (g_ rfl) rfl (r_ rfl rfl (a_ (ii_ rfl rfl (by omega)) rfl (r_ rfl rfl (a_ (kV_ rfl rfl) rfl (r_ rfl rfl (x_ (bk_ rfl rfl) rfl fun r3 hr3 => ?_)))))))))
   refine a_ (W_ rfl rfl) rfl (e_ (c_ rfl ?_))
   cases r3
   ·
    replace hr3 := ne_of_beq_false hr3
    refine s_ rfl (B_ (c_ rfl (d_ (a_ (P_ rfl rfl rfl (an_ (by omega) (by omega))) rfl (a_ (g_ rfl) rfl (e_ (v_ rfl ?_)))))))
    exact ai_ ⟨(i + 1, sv_Rint, H_Rint), by omega, (by rw [fE_, if_neg (fun z => by first | exact absurd z.2 (by assumption) | omega), List.append_nil]; exact hr_Rint)⟩ (by dsimp only; omega) ⟨rfl, rfl, rfl, rfl, rfl, trivial⟩ aO_ (fun _ _ _ => trivial)
   ·
    replace hr3 := eq_of_beq hr3
    refine p_ rfl (d_ (a_ (g_ rfl) rfl (a_ (g_ rfl) rfl (aY_ cg_ T_ kT_ rfl rfl rfl rfl rfl rfl fun b1 => ?_))))
    refine aU_ (news := List.flatMap fm_ [(i : Int)]) oj_ hr_Rint rfl rfl S_ rfl (cn_ 0 rfl) (fun u hu => bg_ ng_ hu) (by simp only [maxLen]; ((try simp only [List.length_append, List.length_cons, List.length_nil]); omega)) (by ((try simp only [List.length_append, List.length_cons, List.length_nil]); omega)) rfl fun sv1 Hr1 hr1 => ?_
    refine ay_ List.perm_append_comm ?_
    have hq1 : aS_ 3 1 sv1 (List.length ((cK_ m i) ++ [(i : Int)])) (List.flatMap fm_ ((cK_ m i) ++ [(i : Int)])) Hr1 := by rw [List.length_append, List.flatMap_append]; exact hr1
    refine a_ (i_ rfl) rfl (e_ (c_ rfl (d_ (a_ (P_ rfl rfl rfl (an_ (by omega) (by omega))) rfl (a_ (g_ rfl) rfl (e_ (v_ rfl ?_)))))))
    exact ai_ ⟨(i + 1, sv1, Hr1), by omega, (by rw [fE_, if_pos ⟨by omega, by assumption⟩]; exact hq1)⟩ (by dsimp only; omega) ⟨rfl, rfl, rfl, rfl, rfl, trivial⟩ S_ (fun _ _ _ => trivial)
def P13 : List Pc := [⟨1, [65], [], [66], [], [], [], 0, 0, 0⟩, ⟨1, [66], [], [67], [], [], [], 0, 0, 0⟩, ⟨1, [65], [], [67], [], [], [], 0, 0, 0⟩]
def P12 : List Pc := [⟨1, [65], [], [66], [], [], [], 0, 0, 0⟩, ⟨1, [66], [], [67], [], [], [], 0, 0, 0⟩]
def P11 : List Pc := [⟨1, [65], [], [66], [], [], [], 0, 0, 0⟩]
theorem kQ_ {p : List Pc} {B : List Str} (hs : ow_ B) (h : ∀ x, x ∈ B ↔ x ∈ bV_ p ∨ x = [42] ∨ x = [33]) : atS p = B :=
  eb_ dy_ List.lt_trans (je_ p) hs fun x => by rw [jd_, eX_, h]
theorem or_ : atS P13 = A3 := kQ_ (by decide) fun x => by
  have e : bV_ P13 = [[65], [66], [66], [67], [65], [67]] := by decide +kernel
  rw [e]; simp only [A3, List.mem_cons, List.not_mem_nil, or_false]
  constructor
  · rintro (h | h | h | h | h) <;> simp [h]
  · rintro ((h | h | h | h | h | h) | h | h) <;> simp [h]
theorem os_ : atS P12 = A3 := kQ_ (by decide) fun x => by
  have e : bV_ P12 = [[65], [66], [66], [67]] := by decide +kernel
  rw [e]; simp only [A3, List.mem_cons, List.not_mem_nil, or_false]
  constructor
  · rintro (h | h | h | h | h) <;> simp [h]
  · rintro ((h | h | h | h) | h | h) <;> simp [h]
def A2 : List Str := [[33], [42], [65], [66]]
theorem ot_ : atS P11 = A2 := kQ_ (by decide) fun x => by
  have e : bV_ P11 = [[65], [66]] := by decide +kernel
  rw [e]; simp only [A2, List.mem_cons, List.not_mem_nil, or_false]
  constructor
  · rintro (h | h | h | h) <;> simp [h]
  · rintro ((h | h) | h | h) <;> simp [h]
theorem ji_ : br_ P13 = 0 := by decide +kernel
theorem lq_ : br_ P12 = 0 := by decide +kernel
theorem lr_ : br_ P11 = 0 := by decide +kernel
def F13 : List Fc := fM_ P13 A3 4
def F11 : List Fc := fM_ P11 A2 4
theorem F13_is : cp_ P13 A3 100 (some F13) := gA_ (fL_ ji_) 4 100 (by decide +kernel) (by decide +kernel)
theorem F12_is : cp_ P12 A3 100 (some F13) := by
  have h : cp_ P12 A3 100 (some (fM_ P12 A3 4)) := gA_ (fL_ lq_) 4 100 (by decide +kernel) (by decide +kernel)
  have e : fM_ P12 A3 4 = F13 := by decide +kernel
  rw [e] at h; exact h
theorem F11_is : cp_ P11 A2 100 (some F11) := gA_ (fL_ lr_) 4 100 (by decide +kernel) (by decide +kernel)
theorem nC_ : (bm_ F13 F0).length = 9 := by decide +kernel
theorem nk_ : (bm_ F13 F13).length = 0 := by decide +kernel
theorem mW_ : (bm_ F13 F11).length = 4 := by decide +kernel
theorem ls_ : F13.length = 12 := by decide +kernel
theorem fd_ {p : List Pc} {bu : Int} {w : Wk} {e : Int} {L : List Fc} (h : cs_ p bu w e) (hc : br_ p = 0) (hb : 0 ≤ bu) (hb2 : bu ≤ 1073741824) (hr : cp_ p (atS p) (min bu 65536).toNat (some L)) : e = 0 ∧ w.ps = p ∧ w.cl.facts = L ∧ w.cl.atoms = atS p ∧ w.ok := by
  obtain ⟨c, h1, h2, _⟩ := h
  obtain ⟨q1, q2, q3⟩ := (gB_ h1 hc hb hb2 hr).1 _ rfl
  obtain ⟨r1, r2, r3⟩ := h2 q1
  exact ⟨q1, r1, by rw [r2, q2], by rw [r2, q3], r3⟩
theorem s13_1 {w : Wk} {e : Int} (h : cs_ [] 3 w e) : e = 0 ∧ w.ps = [] ∧ w.cl.facts = F0 ∧ w.ok := by
  obtain ⟨a, b, c, _, d⟩ := fd_ h ha_ (by decide) (by decide) (L := F0) (by rw [hf_]; exact oE_ 3 (by decide))
  exact ⟨a, b, c, d⟩
theorem s13_2 {w : Wk} {e : Int} (h : cs_ [] 2 w e) : e = 3 := by
  obtain ⟨c, h1, _⟩ := h
  exact (sane2 h1).1
theorem s13_3 {w x : Wk} {g : List Fc} {e : Int} (hw : w.ps = []) (hf : w.cl.facts = F0) (h : fs_ w P13 100 x g e) : e = 0 ∧ x.ps = P13 ∧ x.cl.facts = F13 ∧ x.ok ∧ g.length = 9 := by
  unfold fs_ at h
  rw [if_neg (by rw [ji_]; decide), if_neg (by decide), if_neg (by rw [hw]; decide), hw, List.nil_append] at h
  obtain ⟨a, b, c, _, d⟩ := fd_ h.1 ji_ (by decide) (by decide) (L := F13) (by rw [or_]; exact F13_is)
  refine ⟨a, b, c, d, ?_⟩
  rw [h.2, if_pos a, c, hf]; exact nC_
theorem s13_4 {x y : Wk} {g : List Fc} {e : Int} (hx : x.ps = P13) (hf : x.cl.facts = F13) (h : eH_ x [2] 100 y g e) : e = 0 ∧ y.ps = P12 ∧ y.cl.facts = F13 ∧ y.ok ∧ g.length = 0 := by
  unfold eH_ at h
  rw [if_neg (by rw [hx]; decide), hx, show bF_ [2] 0 P13 = P12 by decide +kernel] at h
  obtain ⟨a, b, c, _, d⟩ := fd_ h.1 lq_ (by decide) (by decide) (L := F13) (by rw [os_]; exact F12_is)
  refine ⟨a, b, c, d, ?_⟩
  rw [h.2, if_pos a, c, hf]; exact nk_
theorem s13_5 {x y : Wk} {g : List Fc} {e : Int} (hx : x.ps = P12) (hf : x.cl.facts = F13) (h : eH_ x [1] 100 y g e) : e = 0 ∧ g.length = 4 := by
  unfold eH_ at h
  rw [if_neg (by rw [hx]; decide), hx, show bF_ [1] 0 P12 = P11 by decide +kernel] at h
  obtain ⟨a, b, c, _, d⟩ := fd_ h.1 lr_ (by decide) (by decide) (L := F11) (by rw [ot_]; exact F11_is)
  refine ⟨a, ?_⟩
  rw [h.2, if_pos a, c, hf]; exact mW_
theorem s13_6 {e : Int} (h : ic_ Wk.no e) : e = 1 := by
  unfold ic_ at h
  rw [if_neg (by rw [show Wk.no.ps = [] from rfl, ha_]; decide)] at h
  obtain ⟨c, e1, h1, h2⟩ := h
  rw [h2, if_neg]
  rintro ⟨q1, q2, _⟩
  subst q1
  have h1' : cv_ [] 1073741824 c 0 := h1
  have := h1'.good.2.2.2.2.1
  rw [q2, hf_] at this
  cases this
theorem nx_ : ∀ x ∈ P13, x.sm := Pc.sm_all (by decide +kernel)
theorem P12_sm : ∀ x ∈ P12, x.sm := Pc.sm_all (by decide +kernel)
end Go.Proofs.YtpdbbglpbngeiaaGreatDoor
namespace Go.Proofs.YtpdbbglpbngeiaaGreatDoor
open Go Go.Sx Go.Proofs
attribute [local irreducible] Code.wp wpList wpAnyH
open Go.Vs
set_option maxHeartbeats 1000000 in
theorem mB_ : Tri Tryz.prog 30 #[] [] [eu_] (fun _ : Unit => .bool true) (fun _ => []) (fun _ => []) := by
 refine J_ Tryz.func30 rfl rfl Tryz.ntmps30 rfl fun v0 => ?_
 refine h_ (d_ (a_ (i_ rfl) rfl (e_ (c_ rfl (h_ (d_ (aa_ (gg_ ([] : List Pc) none 0 3 (fun y hy => by simp at hy) (Nat.le_refl _) (by simp)) rfl F_ (fun v _ h => by exact ⟨.inl rfl, h.1, trivial⟩) rfl fun ⟨⟨w1, e1⟩, hw1⟩ => ?_)))))))
 dsimp only
 dsimp only at hw1
 obtain ⟨rfl, hp1, hf1, hk1⟩ := s13_1 hw1
 refine a_ (g_ rfl) rfl (a_ (V_ rfl rfl) rfl (a_ (V_ rfl rfl) rfl (ah_ bQ_ rfl fun b1 => ?_)))
 refine R_ 0 Z_ rfl rfl rfl rfl rfl rfl (a_ (i_ rfl) rfl (e_ (c_ rfl (h_ (d_ (aa_ (gg_ ([] : List Pc) none 0 2 (fun y hy => by simp at hy) (Nat.le_refl _) (by simp)) rfl F_ (fun v _ h => by exact ⟨.inl rfl, h.2.2.2.1, trivial⟩) rfl fun ⟨⟨w2, e2⟩, hw2⟩ => ?_))))))
 dsimp only
 dsimp only at hw2
 obtain rfl := s13_2 hw2
 refine a_ (g_ rfl) rfl (a_ (V_ rfl rfl) rfl (a_ (V_ rfl rfl) rfl (ah_ bQ_ rfl fun b2 => ?_)))
 refine R_ 0 Z_ rfl rfl rfl rfl rfl rfl (a_ (i_ rfl) rfl (e_ (c_ rfl (h_ (d_ (a_ (aj_ kp_ rfl rfl) rfl (a_ (aj_ kp_ rfl rfl) rfl (a_ (aj_ kp_ rfl rfl) rfl (aY_ E_ Q_ aJ_ rfl rfl rfl rfl rfl rfl fun b3 => ?_)))))))))
 refine da_ (List.flatMap Pc.cells [(Pc.mk 1 [65] [] [66] [] [] [] 0 0 0), (Pc.mk 1 [66] [] [67] [] [] [] 0 0 0), (Pc.mk 1 [65] [] [67] [] [] [] 0 0 0)]) f_ rfl ?_
 refine a_ (i_ rfl) rfl (e_ (c_ rfl (h_ (d_ (a_ (X_ 1 aT_ Z_ rfl rfl rfl) rfl (a_ (g_ rfl) rfl (aa_ (oD_ w1 P13 (some ⟨b3, 0, none⟩) 3 100 (fun y hy => by rw [hp1] at hy; simp at hy) hk1.al hk1.az (by rw [hp1]; simp) (by rw [hf1, nz_]; omega) nx_ (by decide) (fun z => by cases z) (by decide)) rfl F_ (fun v _ h => by exact ⟨h.2.2.2.2.1, h.2.2.2.2.2.1, h.2.2.2.2.2.2.1, h.1, h.2.2.2.2.2.2.2.1, trivial⟩) rfl fun ⟨⟨w3, g3, gad3, gcp3, e3⟩, ha3, hb3⟩ => ?_)))))))
 dsimp only
 dsimp only at ha3 hb3
 obtain ⟨rfl, hp3, hf3, hk3, hg3⟩ := s13_3 hp1 hf1 ha3
 refine a_ (g_ rfl) rfl (a_ (V_ rfl rfl) rfl (a_ (V_ rfl rfl) rfl (a_ (V_ rfl rfl) rfl (ah_ bQ_ rfl fun b4 => ?_))))
 refine R_ 0 Z_ rfl rfl rfl rfl rfl rfl (a_ (i_ rfl) rfl (a_ (i_ rfl) rfl (e_ (c_ rfl (h_ (d_ (a_ (X_ 0 aT_ Z_ rfl rfl rfl) rfl (aY_ cg_ T_ kT_ rfl rfl rfl rfl rfl rfl fun b5 => ?_))))))))
 refine da_ (List.flatMap fm_ [2]) f_ rfl ?_
 refine aa_ (ht_ w3 [2] (some ⟨b5, 0, none⟩) 1 100 (fun y hy => by rw [hp3] at hy; exact nx_ y hy) hk3.al hk3.az (by rw [hp3]; decide) (by rw [hf3, ls_]; omega) (by simp)) rfl F_ (fun v _ h => by exact ⟨h.2.1, h.2.2.1, h.2.2.2.1, h.1, h.2.2.2.2.2.2.2.2.2.2.2.2.1, trivial⟩) rfl fun ⟨⟨w4, g4, gad4, gcp4, e4⟩, ha4, hb4⟩ => ?_
 dsimp only
 dsimp only at ha4 hb4
 obtain ⟨rfl, hp4, hf4, hk4, hg4⟩ := s13_4 hp3 hf3 ha4
 refine a_ (g_ rfl) rfl (a_ (V_ rfl rfl) rfl (a_ (V_ rfl rfl) rfl (a_ (V_ rfl rfl) rfl (ah_ bQ_ rfl fun b6 => ?_))))
 refine R_ 0 Z_ rfl rfl rfl rfl rfl rfl (a_ (i_ rfl) rfl (a_ (i_ rfl) rfl (e_ (c_ rfl (h_ (d_ (a_ (X_ 0 aT_ Z_ rfl rfl rfl) rfl (aY_ cg_ T_ kT_ rfl rfl rfl rfl rfl rfl fun b7 => ?_))))))))
 refine da_ (List.flatMap fm_ [1]) f_ rfl ?_
 refine aa_ (ht_ w4 [1] (some ⟨b7, 0, none⟩) 1 100 (fun y hy => by rw [hp4] at hy; exact P12_sm y hy) hk4.al hk4.az (by rw [hp4]; decide) (by rw [hf4, ls_]; omega) (by simp)) rfl F_ (fun v _ h => by exact ⟨h.2.1, h.2.2.1, h.2.2.2.1, h.1, h.2.2.2.2.2.2.2.2.2.2.2.2.2.2.2.2.2.1, trivial⟩) rfl fun ⟨⟨w5, g5, gad5, gcp5, e5⟩, ha5, hb5⟩ => ?_
 dsimp only
 dsimp only at ha5 hb5
 obtain ⟨rfl, hg5⟩ := s13_5 hp4 hf4 ha5
 refine a_ (g_ rfl) rfl (a_ (V_ rfl rfl) rfl (a_ (V_ rfl rfl) rfl (a_ (V_ rfl rfl) rfl (ah_ bQ_ rfl fun b8 => ?_))))
 refine R_ 0 Z_ rfl rfl rfl rfl rfl rfl (a_ (i_ rfl) rfl (a_ (i_ rfl) rfl (e_ (c_ rfl (h_ (d_ (a_ (g_ rfl) rfl (a_ (bG_ (bk_ rfl rfl) (show _ = Value.bool true from congrArg Value.bool (by decide))) rfl (a_ (g_ rfl) rfl ?_)))))))))
 refine r_ rfl rfl (a_ (m_ aE_ rfl rfl rfl ad_) rfl (r_ rfl rfl (a_ (m_ as_ rfl rfl rfl bq_) rfl (r_ rfl rfl (a_ (t_ 4 bi_ rfl rfl rfl) rfl (r_ rfl rfl (a_ (ae_ L_ rfl) rfl (r_ rfl rfl (x_ (bk_ rfl rfl) rfl fun r1 hr1 => ?_)))))))))
 refine a_ (W_ rfl rfl) rfl (a_ (g_ rfl) rfl ?_)
 cases r1
 ·
  replace hr1 := ne_of_beq_false hr1
  exact absurd (by rw [hf1, nz_]; rfl) hr1
 ·
  replace hr1 := eq_of_beq hr1
  refine r_ rfl rfl (a_ (g_ rfl) rfl (r_ rfl rfl (a_ (bG_ (bk_ rfl rfl) (show _ = Value.bool true from congrArg Value.bool (by decide))) rfl (a_ (W_ rfl rfl) rfl (a_ (g_ rfl) rfl (r_ rfl rfl (a_ (aj_ dL_ rfl rfl) rfl (r_ rfl rfl (aa_ (chkW_c ((Wk.mk [] none 0 (Cl.mk [] none 0 [] none 0))) (fun y hy => by simp at hy) (by simp) (by simp) (by simp)) rfl F_ (fun v _ h => by exact ⟨.inl rfl, .inl rfl, .inl rfl, h.2.2.2.2.2.2.2.2.2.2.2.2.2.2.2.2.2.2.2.2.2.1, trivial⟩) rfl fun ⟨e9, he9⟩ => ?_)))))))))
  dsimp only
  obtain rfl := s13_6 he9
  refine r_ rfl rfl (a_ (bG_ (bk_ rfl rfl) (show _ = Value.bool true from congrArg Value.bool (by decide))) rfl (a_ (W_ rfl rfl) rfl (a_ (g_ rfl) rfl (r_ rfl rfl (a_ (g_ rfl) rfl (r_ rfl rfl (a_ (bG_ (bk_ rfl rfl) (show _ = Value.bool true from congrArg Value.bool (by decide))) rfl (a_ (W_ rfl rfl) rfl (a_ (g_ rfl) rfl ?_)))))))))
  refine r_ rfl rfl (a_ (g_ rfl) rfl (r_ rfl rfl (a_ (ae_ L_ rfl) rfl (r_ rfl rfl (x_ (bk_ rfl rfl) rfl fun r2 hr2 => ?_)))))
  refine a_ (W_ rfl rfl) rfl (a_ (g_ rfl) rfl ?_)
  cases r2
  ·
   replace hr2 := ne_of_beq_false hr2
   exact absurd (by rw [hg3]; rfl) hr2
  ·
   replace hr2 := eq_of_beq hr2
   refine r_ rfl rfl (a_ (g_ rfl) rfl (r_ rfl rfl (a_ (bG_ (bk_ rfl rfl) (show _ = Value.bool true from congrArg Value.bool (by decide))) rfl (a_ (W_ rfl rfl) rfl (a_ (g_ rfl) rfl (r_ rfl rfl (a_ (g_ rfl) rfl (r_ rfl rfl (a_ (ae_ L_ rfl) rfl ?_)))))))))
   refine r_ rfl rfl (x_ (bk_ rfl rfl) rfl fun r3 hr3 => ?_)
   refine a_ (W_ rfl rfl) rfl (a_ (g_ rfl) rfl ?_)
   cases r3
   ·
    replace hr3 := ne_of_beq_false hr3
    exact absurd (by rw [hg4]; rfl) hr3
   ·
    replace hr3 := eq_of_beq hr3
    refine r_ rfl rfl (a_ (g_ rfl) rfl (r_ rfl rfl (a_ (bG_ (bk_ rfl rfl) (show _ = Value.bool true from congrArg Value.bool (by decide))) rfl (a_ (W_ rfl rfl) rfl (a_ (g_ rfl) rfl (r_ rfl rfl (a_ (g_ rfl) rfl (r_ rfl rfl (a_ (ae_ L_ rfl) rfl ?_)))))))))
    refine r_ rfl rfl (x_ (bk_ rfl rfl) rfl fun r4 hr4 => ?_)
    refine a_ (W_ rfl rfl) rfl (a_ (i_ rfl) rfl (e_ (c_ rfl (D_ ?_))))
    exact aA_ Tryz.results30 () (I_ rfl (by rw [← hr4, hg5]; rfl)) F_ (fun _ _ _ => trivial)
end Go.Proofs.YtpdbbglpbngeiaaGreatDoor
namespace Go.Proofs.YtpdbbglpbngeiaaGreatDoor
open Go Go.Sx Go.Proofs
attribute [local irreducible] Code.wp wpList wpAnyH
open Go.Vs
structure Chg where
  ps : List Pc
  ad : Option Addr
  cap : Nat
  msk : Int
def Chg.cells (c : Chg) : List Value := [.slice c.ad c.ps.length c.cap, .int .u32 c.msk]
theorem Chg.cells_len (c : Chg) : c.cells.length = 2 := rfl
def Chg.val (c : Chg) : Value := .agg c.cells.toArray
structure Chg.ok (c : Chg) : Prop where
  le : c.ps.length ≤ c.cap
  nz : c.ad = none → c.cap = 0
  mx : c.cap ≤ 1099511627744
  big : ∀ x ∈ c.ps, x.big
def ns_ (xs : List Chg) : Fct where
  p v := ∀ x ∈ xs, bD_ v x.ad (List.flatMap Pc.cells x.ps)
  mono := fun v v' h hp x hx => (ap_ x.ad (List.flatMap Pc.cells x.ps)).mono v v' h (hp x hx)
theorem sm_big {x : Pc} (h : x.sm) : x.big := ⟨Nat.le_trans h.a (by decide), Nat.le_trans h.b (by decide), Nat.le_trans h.c (by decide), Nat.le_trans h.r (by decide), Nat.le_trans h.s (by decide), Nat.le_trans h.t (by decide)⟩
theorem iG_ {p : List Pc} {bu bu' : Int} {c d : Cl} {e : Int} (h : cv_ p bu c 0) (k : cv_ p bu' d e) (hb : bu ≤ bu') (hb2 : bu' ≤ 1073741824) : e = 0 ∧ d.atoms = c.atoms ∧ d.facts = c.facts := by
  obtain ⟨h1, h2, _, _, h4, h5⟩ := h.good
  have hL : cp_ p (atS p) (min bu' 65536).toNat (some c.facts) := ⟨h5.1, h5.2.1, Nat.le_trans h5.2.2 (by omega)⟩
  obtain ⟨q1, q2, q3⟩ := (gB_ k h1 (by omega) hb2 hL).1 _ rfl
  exact ⟨q1, by rw [q3, h4], q2⟩
theorem gw_ {X W : List Fc} (hX : X.Nodup) (hW : W.Nodup) (h : ∀ z ∈ W, z ∈ X) : (bm_ X W).length + W.length = X.length := by
  have h1 : (X.filter fun f => decide (f ∈ W)).length = W.length := by
    refine Nat.le_antisymm (ez_ (hX.sublist List.filter_sublist) fun x hx => ?_) (ez_ hW fun x hx => ?_)
    · simpa using (List.mem_filter.1 hx).2
    · exact List.mem_filter.2 ⟨h x hx, by simpa using hx⟩
  have h2 : ∀ Y : List Fc, (Y.filter fun f => !decide (f ∈ W)).length + (Y.filter fun f => decide (f ∈ W)).length = Y.length := by
    intro Y
    induction Y with
    | nil => rfl
    | cons a Y ih => by_cases k : a ∈ W <;> simp [k] at ih ⊢ <;> omega
  have h3 := h2 X
  unfold bm_
  rw [h1] at h3
  exact h3
theorem km_ {p q : List Pc} {bu bu' : Int} {c d : Cl} (h : cv_ p bu c 0) (k : cv_ q bu' d 0) (hs : ∀ x ∈ p, x ∈ q) : ∀ z ∈ c.facts, z ∈ d.facts := fun z hz => by
  have h5 := h.good.2.2.2.2.2
  have k5 := k.good.2.2.2.2.2
  exact (k5.2.1 z).2 ((dQ_.of hs).der ((h5.2.1 z).1 hz))
structure Hist (nl ps : List Pc) (m : Int) (w x y : Wk) (won gone : List Fc) (g : Int) : Prop where
  g0 : g = 0
  xp : x.ps = nl ++ ps
  yp : y.ps = bF_ (cK_ m (nl ++ ps).length) 0 (nl ++ ps)
  xs : cv_ (nl ++ ps) 2000 x.cl 0
  ys : cv_ (bF_ (cK_ m (nl ++ ps).length) 0 (nl ++ ps)) 2000 y.cl 0
  wx : ∀ z ∈ w.cl.facts, z ∈ x.cl.facts
  yx : ∀ z ∈ y.cl.facts, z ∈ x.cl.facts
  wl : won.length + w.cl.facts.length = x.cl.facts.length
  gl : gone.length + y.cl.facts.length = x.cl.facts.length
  wm : ∀ z, z ∈ won ↔ z ∈ x.cl.facts ∧ z ∉ w.cl.facts
  gm : ∀ z, z ∈ gone ↔ z ∈ x.cl.facts ∧ z ∉ y.cl.facts
theorem ma_ {nl ps : List Pc} {m bu : Int} {w x y : Wk} {won gone : List Fc} {g : Int} (hS : cs_ nl bu w 0) (hA : fs_ w ps 2000 x won 0) (hR : eH_ x (cK_ m (nl ++ ps).length) 2000 y gone g) : Hist nl ps m w x y won gone g := by
  obtain ⟨s1, _, s3⟩ := hS.good
  obtain ⟨_, _, _, a4, a5⟩ := hA.good
  rw [s1] at a4
  obtain ⟨b1, _, b3⟩ := a4.good
  have hok : kS_ x.ps.length (cK_ m (nl ++ ps).length) := by rw [b1]; exact od_ _ _
  have hR' := hR
  unfold eH_ at hR'
  rw [if_neg (fun z => z ⟨hok, by decide, by decide⟩), b1] at hR'
  obtain ⟨r1, r2⟩ := hR'
  have hg : g = 0 := by
    obtain ⟨c, c1, _, _⟩ := r1
    exact (mm_ (dF_ _ _ _) (dt_ _ _ _) b3 c1).1
  subst hg
  rw [if_pos rfl] at r2
  obtain ⟨d1, _, d3⟩ := r1.good
  have hwx := km_ s3 b3 (fun z hz => List.mem_append_left _ hz)
  have hyx := km_ d3 b3 (dF_ _ _ _)
  refine ⟨rfl, b1, d1, b3, d3, hwx, hyx, ?_, ?_, fun z => by rw [a5, gQ_], fun z => by rw [r2, gQ_]⟩
  · rw [a5]; exact gw_ b3.srt.nodup s3.srt.nodup hwx
  · rw [r2]; exact gw_ b3.srt.nodup d3.srt.nodup hyx
theorem s13_7 {w : Wk} {e : Int} (h : cs_ [] 10 w e) : e = 0 := (fd_ h ha_ (by decide) (by decide) (L := F0) (by rw [hf_]; exact oE_ 10 (by decide))).1
set_option maxHeartbeats 2000000 in
theorem lZ_ (sc : List Chg) (scad : Option Addr) (sccap : Nat) (hscl : sc.length ≤ 10000000000000) (hsc : ∀ x ∈ sc, x.ok) : Tri Tryz.prog 10 #[.slice scad (List.length sc) sccap] [] [ap_ scad (List.flatMap Chg.cells sc), ns_ sc, eu_] (fun _ : Unit => .bool true) (fun _ => []) (fun _ => []) := by
 refine J_ Tryz.func10 rfl rfl Tryz.ntmps10 rfl fun v0 => ?_
 refine h_ (d_ (a_ (i_ rfl) rfl (e_ (c_ rfl (h_ (h_ (d_ (aa_ (mB_) rfl F_ (fun v _ h => by exact ⟨h.2.2.1, trivial⟩) rfl fun _ => ?_))))))))
 refine a_ (bS_ rfl) rfl (e_ (c_ rfl (s_ rfl (B_ (c_ rfl (h_ (h_ (d_ (a_ (g_ rfl) rfl ?_)))))))))
 refine a_ (ae_ Tryz.runUnderlying64 rfl) rfl (x_ (bL_ rfl rfl) rfl fun r1 hr1 => ?_)
 refine e_ (c_ rfl ?_)
 cases r1
 ·
  replace hr1 := of_decide_eq_false hr1
  refine s_ rfl (B_ (c_ rfl (h_ (d_ (aa_ (gg_ ([] : List Pc) none 0 10 (fun y hy => by simp at hy) (Nat.le_refl _) (by simp)) rfl F_ (fun v _ h => by exact ⟨.inl rfl, h.2.2.1, trivial⟩) rfl fun ⟨⟨w0, e0⟩, hS0⟩ => ?_)))))
  dsimp only
  dsimp only at hS0
  have he0 := s13_7 hS0
  refine a_ (g_ rfl) rfl (a_ (V_ rfl rfl) rfl (a_ (V_ rfl rfl) rfl (ah_ bQ_ rfl fun b1 => ?_)))
  refine R_ 0 Z_ rfl rfl rfl rfl rfl rfl (a_ (i_ rfl) rfl (e_ (c_ rfl (h_ (h_ (d_ (a_ (g_ rfl) rfl (x_ (bC_ rfl rfl) rfl fun r2 hr2 => ?_))))))))
  refine e_ (c_ rfl ?_)
  cases r2
  ·
   replace hr2 := aQ_ hr2
   subst he0
   refine s_ rfl (B_ (c_ rfl (h_ (d_ (a_ (i_ rfl) rfl (e_ (c_ rfl (h_ (h_ ?_)))))))))
   refine d_ (a_ (g_ rfl) rfl (a_ (ae_ Tryz.runUnderlying64 rfl) rfl (a_ (g_ rfl) rfl (e_ (c_ rfl (K_ ?_))))))
   refine ax_ (ι := {y : Nat × Wk × List Pc × Value × Hp // y.1 ≤ List.length sc ∧ (∃ b0 : Int, cs_ y.2.2.1 b0 y.2.1 0) ∧ List.length y.2.2.1 ≤ 30 ∧ (∀ x ∈ y.2.2.1, x.sm) ∧ aS_ 47 10 y.2.2.2.1 (List.length y.2.2.1) (List.flatMap Pc.cells y.2.2.1) y.2.2.2.2}) (fun y => [(2, .bool false), (3, zp_ b1 0), (5, y.1.2.2.2.1), (37, .slice scad (List.length sc) sccap), (38, .int .i64 (List.length sc : Int)), (39, .int .i64 (y.1.1 : Int))]) (fun y => ((b1, .cells #[.slice (Wk.pad y.1.2.1) (List.length (Wk.ps y.1.2.1)) (Wk.pcap y.1.2.1), .slice (Cl.aad (Wk.cl y.1.2.1)) (List.length (Cl.atoms (Wk.cl y.1.2.1))) (Cl.acap (Wk.cl y.1.2.1)), .slice (Cl.fad (Wk.cl y.1.2.1)) (List.length (Cl.facts (Wk.cl y.1.2.1))) (Cl.fcap (Wk.cl y.1.2.1))] 50 (0, 0)) :: y.1.2.2.2.2)) (fun y => [ap_ (Wk.pad y.1.2.1) (List.flatMap Pc.cells (Wk.ps y.1.2.1)), ap_ (Cl.aad (Wk.cl y.1.2.1)) (List.flatMap aL_ (Cl.atoms (Wk.cl y.1.2.1))), ap_ (Cl.fad (Wk.cl y.1.2.1)) (List.flatMap Fc.cells (Cl.facts (Wk.cl y.1.2.1))), ap_ scad (List.flatMap Chg.cells sc), ns_ sc, eu_]) (fun y => List.length sc - y.1.1) ⟨((0 : Nat), w0, ([] : List Pc), (.slice none 0 0), []), Nat.zero_le _, ⟨10, hS0⟩, by simp, by simp, (aS_.nil _ _)⟩ ⟨rfl, rfl, rfl, rfl, rfl, rfl, trivial⟩ f_ (fun _ _ h => h) ?_
   rintro ⟨⟨i, w, nl, sv_Rnow, H_Rnow⟩, hi, hSt0, hnl, hnsm, hr_Rnow⟩
   dsimp only at hi hSt0 hnl hnsm hr_Rnow ⊢
   refine h_ (d_ (x_ (ar_ rfl rfl) rfl fun r3 hr3 => ?_))
   refine e_ (c_ rfl (h_ ?_))
   cases r3
   ·
    replace hr3 := of_decide_eq_false hr3
    refine s_ rfl (au_ rfl (c_ rfl (h_ (d_ (a_ (i_ rfl) rfl (e_ (c_ rfl (D_ ?_))))))))
    exact aA_ Tryz.results10 () rfl F_ (fun _ _ _ => trivial)
   ·
    replace hr3 := of_decide_eq_true hr3
    have hlx1 : i < List.length sc := by omega
    obtain ⟨x1, hx1⟩ : ∃ e0, sc[i]? = some e0 := ⟨_, List.getElem?_eq_getElem hlx1⟩
    have hmx1 : x1 ∈ sc := List.mem_of_getElem? hx1
    have hcx := hsc x1 hmx1
    obtain ⟨b0, hSt⟩ := hSt0
    have hcl := hcx.le
    have hcm := hcx.mx
    refine p_ rfl (B_ (c_ rfl (h_ (K_ (h_ (d_ (a_ (al_ Tryz.runUnderlying64 Tryz.sizeOf67 rfl rfl (fun v _ h => aG_ (n := 2) Chg.cells_len (by decide) (by exact h.2.2.2.1) hx1) (by omega) (by first | omega | (simp; done))) rfl (a_ (aK_ (ad := scad) (us := Chg.cells x1) Tryz.isAgg67 Tryz.sizeOf67 rfl (fun v _ h => by exact h.2.2.2.1) (Chg.cells_len _) (ao_ Chg.cells_len hx1)) rfl (ah_ Tryz.zeroValue67 rfl fun b2 => ?_)))))))))
    refine R_ 0 Tryz.sizeOf67 rfl rfl rfl rfl rfl rfl (e_ (c_ rfl (h_ (h_ ?_))))
    refine aB_ ((b2, .cells #[.slice (Chg.ad x1) (List.length (Chg.ps x1)) (Chg.cap x1), .int .u32 (Chg.msk x1)] 67 (0, 0)) :: ((b1, .cells #[.slice (Wk.pad w) (List.length (Wk.ps w)) (Wk.pcap w), .slice (Cl.aad (Wk.cl w)) (List.length (Cl.atoms (Wk.cl w))) (Cl.acap (Wk.cl w)), .slice (Cl.fad (Wk.cl w)) (List.length (Cl.facts (Wk.cl w))) (Cl.fcap (Wk.cl w))] 50 (0, 0)) :: [])) (by kernel_rfl) ?_
    refine ag_ 5 [1, 3, 4] (by kernel_rfl) (fun _ a b => ⟨Vw.sat.sub (a.perm (j_ f_ f_)), b⟩) (l_ rfl (g_ rfl) rfl (l_ rfl (m_ gk_ rfl rfl rfl bZ_) rfl (l_ rfl (t_ 0 cQ_ rfl rfl rfl) rfl (af_ (N_ 0 rfl (by kernel_rfl) (gF_ E_ Q_ rfl fun b3 => ?_))))))
    refine ay_ f_ (e_ (v_ rfl (C_ (fun _ a b => ⟨Vw.sat.sub (a.perm (j_ (k_ f_) (k_ f_))), b⟩) (N_ 2 rfl (by kernel_rfl) (jO_ et_ (ho_ b3 47 10) hr_Rnow rfl rfl q_ (k_ (b_ S_)) (fun u hu => bg_ Pc.cells_one hu) (by simp only [maxLen]; (first | omega | ((try simp only [List.length_append, List.length_cons, List.length_nil]); omega))) (by (first | omega | ((try simp only [List.length_append, List.length_cons, List.length_nil]); omega))) rfl fun sv1 Hr1 hr1 => ?_)))))
    have hq1 : aS_ 47 10 sv1 (List.length (([] : List Pc) ++ nl)) (List.flatMap Pc.cells (([] : List Pc) ++ nl)) Hr1 := by rw [List.length_append, List.flatMap_append]; exact hr1
    refine e_ (v_ rfl (C_ (fun _ a b => ⟨Vw.sat.sub (a.perm (j_ (k_ f_) (k_ f_))), b⟩) (N_ 5 rfl (by kernel_rfl) (dr_ (news := List.flatMap Pc.cells (Chg.ps x1)) et_ hq1 rfl rfl hcx.nz hcx.le q_ (by rw [dc_ Pc.cells 10 Pc.cells_len]) (fun v _ h => by exact (h.2.2.2.2.1 x1 hmx1)) (fun u hu => bg_ Pc.cells_one hu) (by simp only [maxLen]; (first | omega | ((try simp only [List.length_append, List.length_cons, List.length_nil]); omega))) (by (first | omega | ((try simp only [List.length_append, List.length_cons, List.length_nil]); omega))) rfl fun sv2 Hr2 hr2 => ?_))))
    have hq2 : aS_ 47 10 sv2 (List.length ((([] : List Pc) ++ nl) ++ (Chg.ps x1))) (List.flatMap Pc.cells ((([] : List Pc) ++ nl) ++ (Chg.ps x1))) Hr2 := by rw [List.length_append, List.flatMap_append]; exact hr2
    refine e_ (v_ rfl (C_ (fun _ a b => ⟨Vw.sat.sub (a.perm (j_ (k_ f_) (k_ f_))), b⟩) (N_ 6 rfl (by kernel_rfl) (cj_ hq2 q_ fun tad tcp htad hctad hmtad hztad => ?_))))
    subst htad
    refine aa_ (og_ ((([] : List Pc) ++ nl) ++ (Chg.ps x1)) tad tcp (by simp only [List.length_append, List.length_nil]; omega) (fun y hy => by simp only [List.nil_append, List.mem_append] at hy; rcases hy with h | h; exact sm_big (hnsm y h); exact hcx.big y h)) rfl F_ (fun v _ h => by exact ⟨h.1, trivial⟩) rfl fun ⟨sb, hsb⟩ => ?_
    dsimp only
    refine e_ (v_ rfl (C_ (fun _ a b => ⟨Vw.sat.sub (a.perm (j_ f_ f_)), b.2⟩) (ag_ 0 [7] (by kernel_rfl) (fun _ a b => ⟨Vw.sat.sub (a.perm (j_ f_ f_)), b.2⟩) (l_ rfl (bS_ rfl) rfl (af_ (Y_ (by kernel_rfl) (c_ rfl ?_)))))))
    cases sb
    ·
     refine p_ rfl (h_ (d_ (a_ (i_ rfl) rfl (e_ (c_ rfl (D_ ?_))))))
     exact aA_ Tryz.results10 () rfl F_ (fun _ _ _ => trivial)
    ·
     obtain ⟨hl30, hsm30⟩ := hsb rfl
     rw [List.nil_append] at hl30 hsm30
     have hl31 := hl30
     rw [List.length_append] at hl31
     obtain ⟨hw1, hw2, hw3⟩ := hSt.good
     have hwl := hSt.len
     refine s_ rfl (B_ (c_ rfl (h_ (d_ (a_ (X_ 1 aT_ Z_ rfl rfl rfl) rfl (a_ (m_ gk_ rfl rfl rfl bZ_) rfl (a_ (t_ 0 cQ_ rfl rfl rfl) rfl (aa_ (oD_ w (Chg.ps x1) (Chg.ad x1) (Chg.cap x1) 2000 (fun y hy => hnsm y (hw1 ▸ hy)) hw2.al hw2.az (by rw [hw1]; omega) (by omega) (fun y hy => hsm30 y (List.mem_append_right _ hy)) hcx.le hcx.nz (by omega)) rfl F_ (fun v _ h => by exact ⟨h.2.1, h.2.2.1, h.2.2.2.1, (h.2.2.2.2.2.1 x1 hmx1), h.2.2.2.2.2.2.1, trivial⟩) rfl fun ⟨⟨wx, won, wad, wcp, ef⟩, hA, hAk⟩ => ?_))))))))
     dsimp only
     dsimp only at hA hAk
     have hAo := hA.ok
     rw [hw1] at hAo
     refine a_ (g_ rfl) rfl (a_ (V_ rfl rfl) rfl (a_ (V_ rfl rfl) rfl (a_ (V_ rfl rfl) rfl (ah_ bQ_ rfl fun b4 => ?_))))
     refine R_ 0 Z_ rfl rfl rfl rfl rfl rfl (a_ (i_ rfl) rfl (a_ (i_ rfl) rfl (e_ (c_ rfl (h_ (h_ (d_ (a_ (g_ rfl) rfl (x_ (bC_ rfl rfl) rfl fun r4 hr4 => ?_)))))))))
     refine e_ (c_ rfl ?_)
     cases r4
     ·
      replace hr4 := aQ_ hr4
      have hef : ef = 0 := hr4
      subst hef
      have hxg := hA.good
      rw [hw1] at hxg
      have hxp : wx.ps = nl ++ (Chg.ps x1) := hxg.2.2.2.1.good.1
      refine s_ rfl (B_ (c_ rfl (h_ (d_ (a_ (g_ rfl) rfl (a_ (m_ gk_ rfl rfl rfl bZ_) rfl (a_ (t_ 1 cQ_ rfl rfl rfl) rfl (dr_ (news := List.flatMap Pc.cells (Chg.ps x1)) et_ hr_Rnow rfl rfl hcx.nz hcx.le (b_ (b_ S_)) (by rw [dc_ Pc.cells 10 Pc.cells_len]) (fun v _ h => by exact (h.2.2.2.2.2.2.2.2.2.1 x1 hmx1)) (fun u hu => bg_ Pc.cells_one hu) (by simp only [maxLen]; (first | omega | ((try simp only [List.length_append, List.length_cons, List.length_nil]); omega))) (by (first | omega | ((try simp only [List.length_append, List.length_cons, List.length_nil]); omega))) rfl fun sv3 Hr3 hr3 => ?_))))))))
      refine ay_ List.perm_append_comm ?_
      have hq3 : aS_ 47 10 sv3 (List.length (nl ++ (Chg.ps x1))) (List.flatMap Pc.cells (nl ++ (Chg.ps x1))) Hr3 := by rw [List.length_append, List.flatMap_append]; exact hr3
      refine a_ (i_ rfl) rfl (e_ (c_ rfl (h_ (d_ (a_ (g_ rfl) rfl (a_ (fS_ hq3 E_ rfl) rfl (a_ (m_ gk_ rfl rfl rfl Tryz.sizeOf65) rfl (a_ (t_ 1 Tryz.isAgg65 rfl rfl rfl) rfl (aa_ (lX_ (List.length (nl ++ (Chg.ps x1))) (Chg.msk x1) (by rw [List.length_append]; omega)) rfl F_ (fun _ _ _ => by exact trivial) rfl fun ⟨⟨iad, icp⟩, hix⟩ => ?_)))))))))
      dsimp only
      refine a_ (i_ rfl) rfl (e_ (c_ rfl (h_ (d_ (a_ (X_ 0 aT_ Z_ rfl rfl rfl) rfl (a_ (g_ rfl) rfl (aa_ (ht_ wx (cK_ (Chg.msk x1) (List.length (nl ++ (Chg.ps x1)))) iad icp 2000 (fun y hy => hsm30 y (hxp ▸ hy)) hAo.1.al hAo.1.az (by omega) (by omega) (by have := kd_ (Chg.msk x1) (nl ++ (Chg.ps x1)).length; omega)) rfl F_ (fun v _ h => by exact ⟨h.2.1, h.2.2.1, h.2.2.2.1, h.1, h.2.2.2.2.2.2.2.2.2.2.2.1, trivial⟩) rfl fun ⟨⟨wy, gone, gad, gcp, eg⟩, hR, hRk⟩ => ?_)))))))
      dsimp only
      dsimp only at hR hRk
      have hH := ma_ hSt hA hR
      have hRo := hR.ok
      refine a_ (g_ rfl) rfl (a_ (V_ rfl rfl) rfl (a_ (V_ rfl rfl) rfl (a_ (V_ rfl rfl) rfl (ah_ bQ_ rfl fun b5 => ?_))))
      refine R_ 0 Z_ rfl rfl rfl rfl rfl rfl (a_ (i_ rfl) rfl (a_ (i_ rfl) rfl (e_ (c_ rfl (h_ (h_ (d_ (a_ (g_ rfl) rfl (x_ (bC_ rfl rfl) rfl fun r5 hr5 => ?_)))))))))
      refine e_ (c_ rfl ?_)
      cases r5
      ·
       replace hr5 := aQ_ hr5
       refine s_ rfl (B_ (c_ rfl (h_ (d_ (a_ (i_ rfl) rfl (e_ (c_ rfl (h_ (h_ ?_)))))))))
       refine d_ (a_ (g_ rfl) rfl (a_ (fS_ hq3 E_ rfl) rfl (a_ (g_ rfl) rfl (e_ (c_ rfl (K_ (cj_ hq3 (b_ (b_ (b_ S_))) fun nad ncp hnad hcnad hmnad hznad => ?_)))))))
       subst hnad
       refine ax_ (ι := {y : Nat × Value × Hp // y.1 ≤ List.length (nl ++ (Chg.ps x1)) ∧ aS_ 47 10 y.2.1 (List.length (bF_ (cK_ (Chg.msk x1) (nl ++ (Chg.ps x1)).length) 0 (List.take y.1 (nl ++ (Chg.ps x1))))) (List.flatMap Pc.cells (bF_ (cK_ (Chg.msk x1) (nl ++ (Chg.ps x1)).length) 0 (List.take y.1 (nl ++ (Chg.ps x1))))) y.2.2}) (fun y => [(2, .bool false), (3, zp_ b1 0), (5, .slice nad (List.length (nl ++ (Chg.ps x1))) ncp), (37, .slice scad (List.length sc) sccap), (38, .int .i64 (List.length sc : Int)), (39, .int .i64 (i : Int)), (7, zp_ b2 0), (8, zp_ b4 0), (9, .slice wad (List.length won) wcp), (12, zp_ b5 0), (13, .slice gad (List.length gone) gcp), (15, y.1.2.1), (83, .slice nad (List.length (nl ++ (Chg.ps x1))) ncp), (84, .int .i64 (List.length (nl ++ (Chg.ps x1)) : Int)), (85, .int .i64 (y.1.1 : Int))]) (fun y => ((b5, .cells #[.slice (Wk.pad wy) (List.length (Wk.ps wy)) (Wk.pcap wy), .slice (Cl.aad (Wk.cl wy)) (List.length (Cl.atoms (Wk.cl wy))) (Cl.acap (Wk.cl wy)), .slice (Cl.fad (Wk.cl wy)) (List.length (Cl.facts (Wk.cl wy))) (Cl.fcap (Wk.cl wy))] 50 (0, 0)) :: ((b4, .cells #[.slice (Wk.pad wx) (List.length (Wk.ps wx)) (Wk.pcap wx), .slice (Cl.aad (Wk.cl wx)) (List.length (Cl.atoms (Wk.cl wx))) (Cl.acap (Wk.cl wx)), .slice (Cl.fad (Wk.cl wx)) (List.length (Cl.facts (Wk.cl wx))) (Cl.fcap (Wk.cl wx))] 50 (0, 0)) :: ((b2, .cells #[.slice (Chg.ad x1) (List.length (Chg.ps x1)) (Chg.cap x1), .int .u32 (Chg.msk x1)] 67 (0, 0)) :: ((b1, .cells #[.slice (Wk.pad w) (List.length (Wk.ps w)) (Wk.pcap w), .slice (Cl.aad (Wk.cl w)) (List.length (Cl.atoms (Wk.cl w))) (Cl.acap (Wk.cl w)), .slice (Cl.fad (Wk.cl w)) (List.length (Cl.facts (Wk.cl w))) (Cl.fcap (Wk.cl w))] 50 (0, 0)) :: y.1.2.2))))) (fun y => [ap_ nad (List.flatMap Pc.cells (nl ++ (Chg.ps x1))), ap_ (Wk.pad wy) (List.flatMap Pc.cells (Wk.ps wy)), ap_ (Cl.aad (Wk.cl wy)) (List.flatMap aL_ (Cl.atoms (Wk.cl wy))), ap_ (Cl.fad (Wk.cl wy)) (List.flatMap Fc.cells (Cl.facts (Wk.cl wy))), ap_ gad (List.flatMap Fc.cells gone), ap_ iad (List.flatMap fm_ (cK_ (Chg.msk x1) (List.length (nl ++ (Chg.ps x1))))), ap_ (Wk.pad wx) (List.flatMap Pc.cells (Wk.ps wx)), ap_ (Cl.aad (Wk.cl wx)) (List.flatMap aL_ (Cl.atoms (Wk.cl wx))), ap_ (Cl.fad (Wk.cl wx)) (List.flatMap Fc.cells (Cl.facts (Wk.cl wx))), ap_ wad (List.flatMap Fc.cells won), ap_ tad (List.flatMap Pc.cells ((([] : List Pc) ++ nl) ++ (Chg.ps x1))), ap_ (Wk.pad w) (List.flatMap Pc.cells (Wk.ps w)), ap_ (Cl.aad (Wk.cl w)) (List.flatMap aL_ (Cl.atoms (Wk.cl w))), ap_ (Cl.fad (Wk.cl w)) (List.flatMap Fc.cells (Cl.facts (Wk.cl w))), ap_ scad (List.flatMap Chg.cells sc), ns_ sc, eu_]) (fun y => List.length (nl ++ (Chg.ps x1)) - y.1.1) ⟨((0 : Nat), (.slice none 0 0), []), Nat.zero_le _, (aS_.nil _ _)⟩ ⟨rfl, rfl, rfl, rfl, rfl, rfl, rfl, rfl, rfl, rfl, rfl, rfl, rfl, rfl, rfl, trivial⟩ (j_ f_ (j_ f_ (j_ f_ f_))) (fun _ _ h => h) ?_
       rintro ⟨⟨k, sv_Rl, H_Rl⟩, hk, hr_Rl⟩
       dsimp only at hk hr_Rl ⊢
       have hkl := dt_ (cK_ (Chg.msk x1) (nl ++ (Chg.ps x1)).length) 0 (List.take k (nl ++ (Chg.ps x1)))
       rw [List.length_take] at hkl
       refine h_ (d_ (x_ (ar_ rfl rfl) rfl fun r6 hr6 => ?_))
       refine e_ (c_ rfl (h_ ?_))
       cases r6
       ·
        replace hr6 := of_decide_eq_false hr6
        rw [List.take_of_length_le (by omega)] at hr_Rl
        have hkl9 := dt_ (cK_ (Chg.msk x1) (nl ++ (Chg.ps x1)).length) 0 (nl ++ (Chg.ps x1))
        refine s_ rfl (au_ rfl (c_ rfl (h_ (d_ (a_ (g_ rfl) rfl (aa_ (lo_ (nl ++ (Chg.ps x1)) nad ncp 1073741824 (fun y hy => hsm30 y hy) (by omega)) rfl F_ (fun v _ h => by exact ⟨h.1, h.2.2.2.2.2.2.2.2.2.2.2.2.2.2.2.2.1, trivial⟩) rfl fun ⟨⟨c1, a1⟩, hc1⟩ => ?_))))))
        dsimp only
        dsimp only at hc1
        obtain ⟨ha1, hat1, hfc1⟩ := iG_ hH.xs hc1 (by decide) (by decide)
        have hcl1 := hc1.len
        refine a_ (g_ rfl) rfl (a_ (V_ rfl rfl) rfl (a_ (V_ rfl rfl) rfl (ah_ fQ_ rfl fun b6 => ?_)))
        refine R_ 0 ad_ rfl rfl rfl rfl rfl rfl (a_ (i_ rfl) rfl (e_ (c_ rfl (h_ ?_))))
        have hgz : eg = 0 := by assumption
        subst hgz
        have hyS : cs_ (bF_ (cK_ (Chg.msk x1) (nl ++ (Chg.ps x1)).length) 0 (nl ++ (Chg.ps x1))) 2000 wy 0 := by have := hR.good.2.2.1; rw [hxp] at this; exact this
        refine jP_ hr_Rl (b_ (b_ (b_ (b_ S_)))) fun va lad lcp hsv hlc hlm hlz hva hto2 hGa hto3 => ?_
        subst hsv
        refine d_ (a_ (g_ rfl) rfl (aa_ (lo_ (bF_ (cK_ (Chg.msk x1) (nl ++ (Chg.ps x1)).length) 0 (nl ++ (Chg.ps x1))) lad lcp 1073741824 (fun y hy => hsm30 y (dF_ _ _ _ y hy)) (by omega)) rfl F_ (fun v _ h => by exact ⟨h.1, h.2.2.2.2.2.2.2.2.2.2.2.2.2.2.2.2.2.2.2.1, trivial⟩) rfl fun ⟨⟨c2, a2⟩, hc2⟩ => ?_))
        dsimp only
        dsimp only at hc2
        obtain ⟨ha2, hat2, hfc2⟩ := iG_ hH.ys hc2 (by decide) (by decide)
        have hcl2 := hc2.len
        refine a_ (g_ rfl) rfl (a_ (V_ rfl rfl) rfl (a_ (V_ rfl rfl) rfl (ah_ fQ_ rfl fun b7 => ?_)))
        refine R_ 0 ad_ rfl rfl rfl rfl rfl rfl (a_ (i_ rfl) rfl (e_ (c_ rfl (h_ (h_ (d_ (a_ (g_ rfl) rfl (x_ (bC_ rfl rfl) rfl fun r7 hr7 => ?_))))))))
        refine a_ (g_ rfl) rfl ?_
        cases r7
        ·
         replace hr7 := aQ_ hr7
         refine r_ rfl rfl (a_ (g_ rfl) rfl (r_ rfl rfl (x_ (bC_ rfl rfl) rfl fun r8 hr8 => ?_)))
         refine a_ (M_ rfl rfl) rfl (a_ (g_ rfl) rfl ?_)
         cases r8
         ·
          replace hr8 := aQ_ hr8
          refine r_ rfl rfl (a_ (X_ 1 bp_ ad_ rfl rfl rfl) rfl (r_ rfl rfl (a_ (m_ aE_ rfl rfl rfl ad_) rfl (r_ rfl rfl (a_ (X_ 3 bp_ ad_ rfl rfl rfl) rfl (r_ rfl rfl (aI_ (kY_ c1 (Wk.cl wx) (by omega) (by omega) (by omega) (by omega)) rfl F_ (fun v _ h => by exact ⟨h.2.2.2.1, h.2.2.2.2.1, h.2.2.2.2.2.2.2.2.2.2.2.2.1, h.2.2.2.2.2.2.2.2.2.2.2.2.2.1, trivial⟩) rfl fun r9 hr9 => ?_)))))))
          refine r_ rfl rfl (a_ (bS_ rfl) rfl (a_ (M_ rfl rfl) rfl (a_ (g_ rfl) rfl ?_)))
          cases r9
          ·
           simp at hr9
           simp [hat1, hfc1] at hr9
          ·
           simp at hr9
           refine r_ rfl rfl (a_ (X_ 0 bp_ ad_ rfl rfl rfl) rfl (r_ rfl rfl (a_ (m_ aE_ rfl rfl rfl ad_) rfl (r_ rfl rfl (a_ (X_ 2 bp_ ad_ rfl rfl rfl) rfl (r_ rfl rfl (aI_ (kY_ c2 (Wk.cl wy) (by omega) (by omega) (by omega) (by omega)) rfl F_ (fun v _ h => by exact ⟨h.1, h.2.1, h.2.2.2.2.2.2.2.1, h.2.2.2.2.2.2.2.2.1, trivial⟩) rfl fun r10 hr10 => ?_)))))))
           refine r_ rfl rfl (a_ (bS_ rfl) rfl (a_ (M_ rfl rfl) rfl (a_ (g_ rfl) rfl ?_)))
           cases r10
           ·
            simp at hr10
            simp [hat2, hfc2] at hr10
           ·
            simp at hr10
            refine r_ rfl rfl (a_ (m_ aE_ rfl rfl rfl bZ_) rfl (r_ rfl rfl (a_ (t_ 2 cQ_ rfl rfl rfl) rfl (r_ rfl rfl (a_ (ae_ E_ rfl) rfl (r_ rfl rfl (a_ (g_ rfl) rfl (r_ rfl rfl (a_ (ae_ E_ rfl) rfl ?_)))))))))
            refine r_ rfl rfl (x_ (bC_ rfl rfl) rfl fun r11 hr11 => ?_)
            refine a_ (M_ rfl rfl) rfl (e_ (c_ rfl ?_))
            cases r11
            ·
             replace hr11 := aQ_ hr11
             refine s_ rfl (B_ (c_ rfl (h_ (h_ (d_ (a_ (g_ rfl) rfl (a_ (ae_ L_ rfl) rfl (a_ (m_ as_ rfl rfl rfl bq_) rfl (a_ (t_ 1 bi_ rfl rfl rfl) rfl ?_)))))))))
             refine a_ (ae_ L_ rfl) rfl (a_ (m_ aE_ rfl rfl rfl ad_) rfl (a_ (m_ as_ rfl rfl rfl bq_) rfl (a_ (t_ 5 bi_ rfl rfl rfl) rfl (a_ (ae_ L_ rfl) rfl (a_ (P_ rfl rfl rfl (an_ (by omega) (by omega))) rfl (x_ (bC_ rfl rfl) rfl fun r12 hr12 => ?_))))))
             refine a_ (g_ rfl) rfl ?_
             cases r12
             ·
              replace hr12 := aQ_ hr12
              refine r_ rfl rfl (a_ (g_ rfl) rfl (r_ rfl rfl (a_ (ae_ L_ rfl) rfl (r_ rfl rfl (a_ (m_ as_ rfl rfl rfl bq_) rfl (r_ rfl rfl (a_ (t_ 1 bi_ rfl rfl rfl) rfl (r_ rfl rfl (a_ (ae_ L_ rfl) rfl ?_)))))))))
              refine r_ rfl rfl (a_ (m_ as_ rfl rfl rfl bq_) rfl (r_ rfl rfl (a_ (t_ 0 bi_ rfl rfl rfl) rfl (r_ rfl rfl (a_ (ae_ L_ rfl) rfl (r_ rfl rfl (a_ (P_ rfl rfl rfl (an_ (by omega) (by omega))) rfl (r_ rfl rfl (x_ (bC_ rfl rfl) rfl fun r13 hr13 => ?_)))))))))
              refine a_ (M_ rfl rfl) rfl (e_ (c_ rfl ?_))
              cases r13
              ·
               replace hr13 := aQ_ hr13
               refine s_ rfl (B_ (c_ rfl (h_ (h_ (d_ (a_ (g_ rfl) rfl (a_ (ae_ L_ rfl) rfl (a_ (g_ rfl) rfl (e_ ?_)))))))))
               refine c_ rfl (K_ ?_)
               refine ax_ (ι := {y : Nat // y ≤ List.length won}) (fun y => [(2, .bool false), (3, zp_ b1 0), (5, .slice nad (List.length (nl ++ (Chg.ps x1))) ncp), (37, .slice scad (List.length sc) sccap), (38, .int .i64 (List.length sc : Int)), (39, .int .i64 (i : Int)), (7, zp_ b2 0), (8, zp_ b4 0), (9, .slice wad (List.length won) wcp), (12, zp_ b5 0), (13, .slice gad (List.length gone) gcp), (15, .slice lad (List.length (bF_ (cK_ (Chg.msk x1) (nl ++ (Chg.ps x1)).length) 0 (nl ++ (Chg.ps x1)))) lcp), (83, .slice nad (List.length (nl ++ (Chg.ps x1))) ncp), (84, .int .i64 (List.length (nl ++ (Chg.ps x1)) : Int)), (85, .int .i64 (k : Int)), (18, zp_ b6 0), (20, zp_ b7 0), (166, .slice wad (List.length won) wcp), (167, .int .i64 (List.length won : Int)), (168, .int .i64 (y.1 : Int))]) (fun y => ((b7, .cells (Cl.cells c2).toArray 28 (0, 0)) :: ((b6, .cells (Cl.cells c1).toArray 28 (0, 0)) :: ((b5, .cells #[.slice (Wk.pad wy) (List.length (Wk.ps wy)) (Wk.pcap wy), .slice (Cl.aad (Wk.cl wy)) (List.length (Cl.atoms (Wk.cl wy))) (Cl.acap (Wk.cl wy)), .slice (Cl.fad (Wk.cl wy)) (List.length (Cl.facts (Wk.cl wy))) (Cl.fcap (Wk.cl wy))] 50 (0, 0)) :: ((b4, .cells #[.slice (Wk.pad wx) (List.length (Wk.ps wx)) (Wk.pcap wx), .slice (Cl.aad (Wk.cl wx)) (List.length (Cl.atoms (Wk.cl wx))) (Cl.acap (Wk.cl wx)), .slice (Cl.fad (Wk.cl wx)) (List.length (Cl.facts (Wk.cl wx))) (Cl.fcap (Wk.cl wx))] 50 (0, 0)) :: ((b2, .cells #[.slice (Chg.ad x1) (List.length (Chg.ps x1)) (Chg.cap x1), .int .u32 (Chg.msk x1)] 67 (0, 0)) :: ((b1, .cells #[.slice (Wk.pad w) (List.length (Wk.ps w)) (Wk.pcap w), .slice (Cl.aad (Wk.cl w)) (List.length (Cl.atoms (Wk.cl w))) (Cl.acap (Wk.cl w)), .slice (Cl.fad (Wk.cl w)) (List.length (Cl.facts (Wk.cl w))) (Cl.fcap (Wk.cl w))] 50 (0, 0)) :: []))))))) (fun y => [ap_ (Cl.aad c2) (List.flatMap aL_ (Cl.atoms c2)), ap_ (Cl.fad c2) (List.flatMap Fc.cells (Cl.facts c2)), ap_ lad (List.flatMap Pc.cells (bF_ (cK_ (Chg.msk x1) (nl ++ (Chg.ps x1)).length) 0 (nl ++ (Chg.ps x1)))), ap_ (Cl.aad c1) (List.flatMap aL_ (Cl.atoms c1)), ap_ (Cl.fad c1) (List.flatMap Fc.cells (Cl.facts c1)), ap_ nad (List.flatMap Pc.cells (nl ++ (Chg.ps x1))), ap_ (Wk.pad wy) (List.flatMap Pc.cells (Wk.ps wy)), ap_ (Cl.aad (Wk.cl wy)) (List.flatMap aL_ (Cl.atoms (Wk.cl wy))), ap_ (Cl.fad (Wk.cl wy)) (List.flatMap Fc.cells (Cl.facts (Wk.cl wy))), ap_ gad (List.flatMap Fc.cells gone), ap_ iad (List.flatMap fm_ (cK_ (Chg.msk x1) (List.length (nl ++ (Chg.ps x1))))), ap_ (Wk.pad wx) (List.flatMap Pc.cells (Wk.ps wx)), ap_ (Cl.aad (Wk.cl wx)) (List.flatMap aL_ (Cl.atoms (Wk.cl wx))), ap_ (Cl.fad (Wk.cl wx)) (List.flatMap Fc.cells (Cl.facts (Wk.cl wx))), ap_ wad (List.flatMap Fc.cells won), ap_ tad (List.flatMap Pc.cells ((([] : List Pc) ++ nl) ++ (Chg.ps x1))), ap_ (Wk.pad w) (List.flatMap Pc.cells (Wk.ps w)), ap_ (Cl.aad (Wk.cl w)) (List.flatMap aL_ (Cl.atoms (Wk.cl w))), ap_ (Cl.fad (Wk.cl w)) (List.flatMap Fc.cells (Cl.facts (Wk.cl w))), ap_ scad (List.flatMap Chg.cells sc), ns_ sc, eu_]) (fun y => List.length won - y.1) ⟨(0 : Nat), Nat.zero_le _⟩ ⟨rfl, rfl, rfl, rfl, rfl, rfl, rfl, rfl, rfl, rfl, rfl, rfl, rfl, rfl, rfl, rfl, rfl, rfl, rfl, rfl, trivial⟩ (j_ f_ (j_ f_ (j_ f_ (j_ f_ (j_ f_ f_))))) (fun _ _ h => h) ?_
               rintro ⟨m1, hi_m1⟩
               dsimp only at hi_m1 ⊢
               refine h_ (d_ (x_ (ar_ rfl rfl) rfl fun r14 hr14 => ?_))
               refine e_ (c_ rfl (h_ ?_))
               cases r14
               ·
                replace hr14 := of_decide_eq_false hr14
                refine s_ rfl (au_ rfl (c_ rfl (h_ (h_ (d_ (a_ (g_ rfl) rfl (a_ (ae_ L_ rfl) rfl (a_ (g_ rfl) rfl (e_ ?_)))))))))
                refine c_ rfl (K_ ?_)
                refine ax_ (ι := {y : Nat // y ≤ List.length gone}) (fun y => [(2, .bool false), (3, zp_ b1 0), (5, .slice nad (List.length (nl ++ (Chg.ps x1))) ncp), (37, .slice scad (List.length sc) sccap), (38, .int .i64 (List.length sc : Int)), (39, .int .i64 (i : Int)), (7, zp_ b2 0), (8, zp_ b4 0), (9, .slice wad (List.length won) wcp), (12, zp_ b5 0), (13, .slice gad (List.length gone) gcp), (15, .slice lad (List.length (bF_ (cK_ (Chg.msk x1) (nl ++ (Chg.ps x1)).length) 0 (nl ++ (Chg.ps x1)))) lcp), (83, .slice nad (List.length (nl ++ (Chg.ps x1))) ncp), (84, .int .i64 (List.length (nl ++ (Chg.ps x1)) : Int)), (85, .int .i64 (k : Int)), (18, zp_ b6 0), (20, zp_ b7 0), (166, .slice wad (List.length won) wcp), (167, .int .i64 (List.length won : Int)), (168, .int .i64 (m1 : Int)), (185, .slice gad (List.length gone) gcp), (186, .int .i64 (List.length gone : Int)), (187, .int .i64 (y.1 : Int))]) (fun y => ((b7, .cells (Cl.cells c2).toArray 28 (0, 0)) :: ((b6, .cells (Cl.cells c1).toArray 28 (0, 0)) :: ((b5, .cells #[.slice (Wk.pad wy) (List.length (Wk.ps wy)) (Wk.pcap wy), .slice (Cl.aad (Wk.cl wy)) (List.length (Cl.atoms (Wk.cl wy))) (Cl.acap (Wk.cl wy)), .slice (Cl.fad (Wk.cl wy)) (List.length (Cl.facts (Wk.cl wy))) (Cl.fcap (Wk.cl wy))] 50 (0, 0)) :: ((b4, .cells #[.slice (Wk.pad wx) (List.length (Wk.ps wx)) (Wk.pcap wx), .slice (Cl.aad (Wk.cl wx)) (List.length (Cl.atoms (Wk.cl wx))) (Cl.acap (Wk.cl wx)), .slice (Cl.fad (Wk.cl wx)) (List.length (Cl.facts (Wk.cl wx))) (Cl.fcap (Wk.cl wx))] 50 (0, 0)) :: ((b2, .cells #[.slice (Chg.ad x1) (List.length (Chg.ps x1)) (Chg.cap x1), .int .u32 (Chg.msk x1)] 67 (0, 0)) :: ((b1, .cells #[.slice (Wk.pad w) (List.length (Wk.ps w)) (Wk.pcap w), .slice (Cl.aad (Wk.cl w)) (List.length (Cl.atoms (Wk.cl w))) (Cl.acap (Wk.cl w)), .slice (Cl.fad (Wk.cl w)) (List.length (Cl.facts (Wk.cl w))) (Cl.fcap (Wk.cl w))] 50 (0, 0)) :: []))))))) (fun y => [ap_ (Cl.aad c2) (List.flatMap aL_ (Cl.atoms c2)), ap_ (Cl.fad c2) (List.flatMap Fc.cells (Cl.facts c2)), ap_ lad (List.flatMap Pc.cells (bF_ (cK_ (Chg.msk x1) (nl ++ (Chg.ps x1)).length) 0 (nl ++ (Chg.ps x1)))), ap_ (Cl.aad c1) (List.flatMap aL_ (Cl.atoms c1)), ap_ (Cl.fad c1) (List.flatMap Fc.cells (Cl.facts c1)), ap_ nad (List.flatMap Pc.cells (nl ++ (Chg.ps x1))), ap_ (Wk.pad wy) (List.flatMap Pc.cells (Wk.ps wy)), ap_ (Cl.aad (Wk.cl wy)) (List.flatMap aL_ (Cl.atoms (Wk.cl wy))), ap_ (Cl.fad (Wk.cl wy)) (List.flatMap Fc.cells (Cl.facts (Wk.cl wy))), ap_ gad (List.flatMap Fc.cells gone), ap_ iad (List.flatMap fm_ (cK_ (Chg.msk x1) (List.length (nl ++ (Chg.ps x1))))), ap_ (Wk.pad wx) (List.flatMap Pc.cells (Wk.ps wx)), ap_ (Cl.aad (Wk.cl wx)) (List.flatMap aL_ (Cl.atoms (Wk.cl wx))), ap_ (Cl.fad (Wk.cl wx)) (List.flatMap Fc.cells (Cl.facts (Wk.cl wx))), ap_ wad (List.flatMap Fc.cells won), ap_ tad (List.flatMap Pc.cells ((([] : List Pc) ++ nl) ++ (Chg.ps x1))), ap_ (Wk.pad w) (List.flatMap Pc.cells (Wk.ps w)), ap_ (Cl.aad (Wk.cl w)) (List.flatMap aL_ (Cl.atoms (Wk.cl w))), ap_ (Cl.fad (Wk.cl w)) (List.flatMap Fc.cells (Cl.facts (Wk.cl w))), ap_ scad (List.flatMap Chg.cells sc), ns_ sc, eu_]) (fun y => List.length gone - y.1) ⟨(0 : Nat), Nat.zero_le _⟩ ⟨rfl, rfl, rfl, rfl, rfl, rfl, rfl, rfl, rfl, rfl, rfl, rfl, rfl, rfl, rfl, rfl, rfl, rfl, rfl, rfl, rfl, rfl, rfl, trivial⟩ (j_ f_ (j_ f_ (j_ f_ (j_ f_ (j_ f_ f_))))) (fun _ _ h => h) ?_
                rintro ⟨m2, hi_m2⟩
                dsimp only at hi_m2 ⊢
                refine h_ (d_ (x_ (ar_ rfl rfl) rfl fun r15 hr15 => ?_))
                refine e_ (c_ rfl (h_ ?_))
                cases r15
                ·
                 replace hr15 := of_decide_eq_false hr15
                 refine s_ rfl (au_ rfl (c_ rfl (d_ (a_ (X_ 2 aT_ Z_ rfl rfl rfl) rfl (a_ (g_ rfl) rfl (R_ 5 Z_ rfl rfl rfl rfl rfl rfl (a_ (i_ rfl) rfl (e_ (c_ rfl ?_)))))))))
                 refine d_ (a_ (P_ rfl rfl rfl (an_ (by omega) (by omega))) rfl (a_ (g_ rfl) rfl (e_ (v_ rfl ?_))))
                 exact lP_ ⟨(i + 1, wy, (bF_ (cK_ (Chg.msk x1) (nl ++ (Chg.ps x1)).length) 0 (nl ++ (Chg.ps x1))), (.slice lad (List.length (bF_ (cK_ (Chg.msk x1) (nl ++ (Chg.ps x1)).length) 0 (nl ++ (Chg.ps x1)))) lcp), H_Rl), ⟨hlx1, ⟨2000, hyS⟩, by have := dt_ (cK_ (Chg.msk x1) (nl ++ (Chg.ps x1)).length) 0 (nl ++ (Chg.ps x1)); dsimp only; omega, fun y hy => hsm30 y (dF_ _ _ _ y hy), hr_Rl⟩⟩ hva hto2 ⟨hGa.2.2.2.1, hGa.2.2.2.2.1, hGa.2.2.2.2.2.1, hGa.2.2.2.2.2.2.2.2.2.2.2.2.2.2.2.2.1, hGa.2.2.2.2.2.2.2.2.2.2.2.2.2.2.2.2.2.1, hGa.2.2.2.2.2.2.2.2.2.2.2.2.2.2.2.2.2.2.1, trivial⟩ (by dsimp only; omega) ⟨rfl, rfl, rfl, rfl, rfl, rfl, trivial⟩ (b_ (b_ (b_ (b_ (b_ f_))))) (.refl _)
                ·
                 replace hr15 := of_decide_eq_true hr15
                 have hlz2 : m2 < List.length gone := by omega
                 obtain ⟨z2, hz2⟩ : ∃ e0, gone[m2]? = some e0 := ⟨_, List.getElem?_eq_getElem hlz2⟩
                 have hmz2 : z2 ∈ gone := List.mem_of_getElem? hz2
                 refine p_ rfl (B_ (c_ rfl (h_ (K_ (h_ (d_ (a_ (al_ L_ G_ rfl rfl (fun v _ h => aG_ (n := 6) Fc.cells_len (by decide) (by exact h.2.2.2.2.2.2.2.2.2.1) hz2) (by omega) (by first | omega | (simp; done))) rfl (a_ (aK_ (ad := gad) (us := Fc.cells z2) ac_ G_ rfl (fun v _ h => by exact h.2.2.2.2.2.2.2.2.2.1) (Fc.cells_len _) (ao_ Fc.cells_len hz2)) rfl (ah_ bb_ rfl fun b8 => ?_)))))))))
                 refine R_ 0 G_ rfl rfl rfl rfl rfl rfl (e_ (c_ rfl (h_ (d_ (a_ (m_ as_ rfl rfl rfl bq_) rfl (a_ (t_ 2 bi_ rfl rfl rfl) rfl (a_ (X_ 0 ac_ G_ rfl rfl rfl) rfl (aI_ (lj_ (Cl.facts c1) (Cl.fad c1) (Cl.fcap c1) z2 (by omega) hc1.srt) rfl F_ (fun v _ h => by exact ⟨h.2.2.2.2.1, trivial⟩) rfl fun r16 hr16 => ?_))))))))
                 refine a_ (bS_ rfl) rfl (a_ (g_ rfl) rfl ?_)
                 cases r16
                 ·
                  replace hr16 := dF hr16
                  exact absurd (by rw [hfc1]; exact ((hH.gm z2).1 hmz2).1) hr16
                 ·
                  replace hr16 := dT hr16
                  refine r_ rfl rfl (a_ (m_ as_ rfl rfl rfl bq_) rfl (r_ rfl rfl (a_ (t_ 1 bi_ rfl rfl rfl) rfl (r_ rfl rfl (a_ (X_ 0 ac_ G_ rfl rfl rfl) rfl (r_ rfl rfl (aI_ (lj_ (Cl.facts c2) (Cl.fad c2) (Cl.fcap c2) z2 (by omega) hc2.srt) rfl F_ (fun v _ h => by exact ⟨h.2.1, trivial⟩) rfl fun r17 hr17 => ?_)))))))
                  refine a_ (M_ rfl rfl) rfl (e_ (c_ rfl ?_))
                  cases r17
                  ·
                   replace hr17 := dF hr17
                   refine s_ rfl (B_ (c_ rfl (d_ (a_ (P_ rfl rfl rfl (an_ (by omega) (by omega))) rfl (a_ (g_ rfl) rfl (e_ (v_ rfl ?_)))))))
                   exact ai_ ⟨m2 + 1, hlz2⟩ (by dsimp only; omega) ⟨rfl, rfl, rfl, rfl, rfl, rfl, rfl, rfl, rfl, rfl, rfl, rfl, rfl, rfl, rfl, rfl, rfl, rfl, rfl, rfl, rfl, rfl, rfl, trivial⟩ (j_ (b_ f_) (j_ (b_ f_) (j_ (b_ f_) (j_ (b_ f_) (j_ (b_ f_) (b_ f_)))))) (fun _ _ h => h)
                  ·
                   replace hr17 := dT hr17
                   exact absurd hr17 (by rw [hfc2]; exact ((hH.gm z2).1 hmz2).2)
               ·
                replace hr14 := of_decide_eq_true hr14
                have hlz1 : m1 < List.length won := by omega
                obtain ⟨z1, hz1⟩ : ∃ e0, won[m1]? = some e0 := ⟨_, List.getElem?_eq_getElem hlz1⟩
                have hmz1 : z1 ∈ won := List.mem_of_getElem? hz1
                refine p_ rfl (B_ (c_ rfl (h_ (K_ (h_ (d_ (a_ (al_ L_ G_ rfl rfl (fun v _ h => aG_ (n := 6) Fc.cells_len (by decide) (by exact h.2.2.2.2.2.2.2.2.2.2.2.2.2.2.1) hz1) (by omega) (by first | omega | (simp; done))) rfl (a_ (aK_ (ad := wad) (us := Fc.cells z1) ac_ G_ rfl (fun v _ h => by exact h.2.2.2.2.2.2.2.2.2.2.2.2.2.2.1) (Fc.cells_len _) (ao_ Fc.cells_len hz1)) rfl (ah_ bb_ rfl fun b9 => ?_)))))))))
                refine R_ 0 G_ rfl rfl rfl rfl rfl rfl (e_ (c_ rfl (h_ (d_ (a_ (m_ as_ rfl rfl rfl bq_) rfl (a_ (t_ 2 bi_ rfl rfl rfl) rfl (a_ (X_ 0 ac_ G_ rfl rfl rfl) rfl (aI_ (lj_ (Cl.facts c1) (Cl.fad c1) (Cl.fcap c1) z1 (by omega) hc1.srt) rfl F_ (fun v _ h => by exact ⟨h.2.2.2.2.1, trivial⟩) rfl fun r18 hr18 => ?_))))))))
                refine a_ (bS_ rfl) rfl (a_ (g_ rfl) rfl ?_)
                cases r18
                ·
                 replace hr18 := dF hr18
                 exact absurd (by rw [hfc1]; exact ((hH.wm z1).1 hmz1).1) hr18
                ·
                 replace hr18 := dT hr18
                 refine r_ rfl rfl (a_ (m_ aE_ rfl rfl rfl ad_) rfl (r_ rfl rfl (a_ (m_ as_ rfl rfl rfl bq_) rfl (r_ rfl rfl (a_ (t_ 6 bi_ rfl rfl rfl) rfl (r_ rfl rfl (a_ (X_ 0 ac_ G_ rfl rfl rfl) rfl (r_ rfl rfl (aI_ (lj_ (Cl.facts (Wk.cl w)) (Cl.fad (Wk.cl w)) (Cl.fcap (Wk.cl w)) z1 (by omega) hw3.srt) rfl F_ (fun v _ h => by exact ⟨h.2.2.2.2.2.2.2.2.2.2.2.2.2.2.2.2.2.2.1, trivial⟩) rfl fun r19 hr19 => ?_)))))))))
                 refine a_ (M_ rfl rfl) rfl (e_ (c_ rfl ?_))
                 cases r19
                 ·
                  replace hr19 := dF hr19
                  refine s_ rfl (B_ (c_ rfl (d_ (a_ (P_ rfl rfl rfl (an_ (by omega) (by omega))) rfl (a_ (g_ rfl) rfl (e_ (v_ rfl ?_)))))))
                  exact ai_ ⟨m1 + 1, hlz1⟩ (by dsimp only; omega) ⟨rfl, rfl, rfl, rfl, rfl, rfl, rfl, rfl, rfl, rfl, rfl, rfl, rfl, rfl, rfl, rfl, rfl, rfl, rfl, rfl, trivial⟩ (j_ (b_ f_) (j_ (b_ f_) (j_ (b_ f_) (j_ (b_ f_) (j_ (b_ f_) (b_ f_)))))) (fun _ _ h => h)
                 ·
                  replace hr19 := dT hr19
                  exact absurd hr19 ((hH.wm z1).1 hmz1).2
              ·
               replace hr13 := aP_ hr13
               exact absurd (by have := hH.gl; rw [hfc1, hfc2]; omega) hr13
             ·
              replace hr12 := aP_ hr12
              exact absurd (by have := hH.wl; rw [hfc1]; omega) hr12
            ·
             replace hr11 := aP_ hr11
             exact absurd (by rw [hH.yp]) hr11
         ·
          replace hr8 := aP_ hr8
          exact absurd ha2 hr8
        ·
         replace hr7 := aP_ hr7
         exact absurd ha1 hr7
       ·
        replace hr6 := of_decide_eq_true hr6
        have hlx2 : k < List.length (nl ++ (Chg.ps x1)) := by omega
        obtain ⟨x2, hx2⟩ : ∃ e0, (nl ++ (Chg.ps x1))[k]? = some e0 := ⟨_, List.getElem?_eq_getElem hlx2⟩
        have hmx2 : x2 ∈ (nl ++ (Chg.ps x1)) := List.mem_of_getElem? hx2
        refine p_ rfl (B_ (c_ rfl (h_ (K_ (h_ (d_ (a_ (g_ rfl) rfl (a_ (al_ E_ Q_ rfl rfl (fun v _ h => aG_ (n := 10) Pc.cells_len (by decide) (by exact h.1) hx2) (by omega) (by first | omega | (simp; done))) rfl (a_ (aK_ (ad := nad) (us := Pc.cells x2) bc_ Q_ rfl (fun v _ h => by exact h.1) (Pc.cells_len _) (ao_ Pc.cells_len hx2)) rfl ?_)))))))))
        refine ah_ aJ_ rfl fun b10 => ?_
        refine a_ (i_ rfl) rfl (R_ 0 Q_ rfl rfl rfl rfl rfl rfl (e_ (c_ rfl (h_ (d_ (a_ (g_ rfl) rfl (x_ (de_ rfl rfl) rfl fun r20 hr20 => ?_)))))))
        refine a_ (g_ rfl) rfl ?_
        cases r20
        ·
         replace hr20 := of_decide_eq_false hr20
         refine r_ rfl rfl (a_ (m_ gk_ rfl rfl rfl Tryz.sizeOf65) rfl (r_ rfl rfl (a_ (t_ 3 Tryz.isAgg65 rfl rfl rfl) rfl (r_ rfl rfl (a_ (g_ rfl) rfl (r_ rfl rfl (a_ (ii_ rfl rfl (by omega)) rfl (r_ rfl rfl (a_ (kV_ rfl rfl) rfl ?_)))))))))
         refine r_ rfl rfl (x_ (bk_ rfl rfl) rfl fun r21 hr21 => ?_)
         refine a_ (M_ rfl rfl) rfl (e_ (c_ rfl ?_))
         cases r21
         ·
          replace hr21 := ne_of_beq_false hr21
          refine s_ rfl (B_ (c_ rfl (d_ (a_ (P_ rfl rfl rfl (an_ (by omega) (by omega))) rfl (a_ (g_ rfl) rfl (e_ (v_ rfl ?_)))))))
          exact ai_ ⟨(k + 1, sv_Rl, H_Rl), hlx2, (by rw [ef_ hx2, if_pos ((fn_ _ _ _).2 ⟨k, rfl, by omega, by omega, (oo_ _ _).resolve_left (by assumption)⟩), List.append_nil]; exact hr_Rl)⟩ (by dsimp only; omega) ⟨rfl, rfl, rfl, rfl, rfl, rfl, rfl, rfl, rfl, rfl, rfl, rfl, rfl, rfl, rfl, trivial⟩ (j_ (b_ f_) (j_ (b_ f_) (j_ (b_ f_) (j_ (b_ f_) S_)))) (fun _ _ h => h)
         ·
          replace hr21 := eq_of_beq hr21
          refine p_ rfl (d_ (a_ (g_ rfl) rfl (a_ (X_ 0 bc_ Q_ rfl rfl rfl) rfl (aY_ E_ Q_ aJ_ rfl rfl rfl rfl rfl rfl fun b11 => ?_))))
          refine aU_ (news := List.flatMap Pc.cells [x2]) et_ hr_Rl rfl rfl (b_ (b_ (b_ (b_ (b_ S_))))) rfl (cn_ 0 rfl) (fun u hu => bg_ Pc.cells_one hu) (by simp only [maxLen]; (first | omega | ((try simp only [List.length_append, List.length_cons, List.length_nil]); omega))) (by (first | omega | ((try simp only [List.length_append, List.length_cons, List.length_nil]); omega))) rfl fun sv4 Hr4 hr4 => ?_
          refine ay_ List.perm_append_comm ?_
          have hq4 : aS_ 47 10 sv4 (List.length ((bF_ (cK_ (Chg.msk x1) (nl ++ (Chg.ps x1)).length) 0 (List.take k (nl ++ (Chg.ps x1)))) ++ [x2])) (List.flatMap Pc.cells ((bF_ (cK_ (Chg.msk x1) (nl ++ (Chg.ps x1)).length) 0 (List.take k (nl ++ (Chg.ps x1)))) ++ [x2])) Hr4 := by rw [List.length_append, List.flatMap_append]; exact hr4
          refine a_ (i_ rfl) rfl (e_ (c_ rfl (d_ (a_ (P_ rfl rfl rfl (an_ (by omega) (by omega))) rfl (a_ (g_ rfl) rfl (e_ (v_ rfl ?_)))))))
          exact ai_ ⟨(k + 1, sv4, Hr4), hlx2, (by rw [ef_ hx2, if_neg (fun z => by obtain ⟨j, e, _, h1, h2⟩ := (fn_ _ _ _).1 z; have ej : j = k := (by omega); subst ej; omega)]; exact hq4)⟩ (by dsimp only; omega) ⟨rfl, rfl, rfl, rfl, rfl, rfl, rfl, rfl, rfl, rfl, rfl, rfl, rfl, rfl, rfl, trivial⟩ (j_ (b_ (b_ f_)) (j_ (b_ (b_ f_)) (j_ (b_ (b_ f_)) (j_ (b_ (b_ f_)) (b_ S_))))) (fun _ _ h => h)
        ·
         replace hr20 := of_decide_eq_true hr20
         refine y_ rfl rfl rfl rfl (y_ rfl rfl rfl rfl (y_ rfl rfl rfl rfl (y_ rfl rfl rfl rfl (y_ rfl rfl rfl rfl (y_ rfl rfl rfl rfl (a_ (W_ rfl rfl) rfl (e_ (c_ rfl (p_ rfl ?_)))))))))
         refine d_ (a_ (g_ rfl) rfl (a_ (X_ 0 bc_ Q_ rfl rfl rfl) rfl (aY_ E_ Q_ aJ_ rfl rfl rfl rfl rfl rfl fun b12 => ?_)))
         refine aU_ (news := List.flatMap Pc.cells [x2]) et_ hr_Rl rfl rfl (b_ (b_ (b_ (b_ (b_ S_))))) rfl (cn_ 0 rfl) (fun u hu => bg_ Pc.cells_one hu) (by simp only [maxLen]; (first | omega | ((try simp only [List.length_append, List.length_cons, List.length_nil]); omega))) (by (first | omega | ((try simp only [List.length_append, List.length_cons, List.length_nil]); omega))) rfl fun sv5 Hr5 hr5 => ?_
         refine ay_ List.perm_append_comm ?_
         have hq5 : aS_ 47 10 sv5 (List.length ((bF_ (cK_ (Chg.msk x1) (nl ++ (Chg.ps x1)).length) 0 (List.take k (nl ++ (Chg.ps x1)))) ++ [x2])) (List.flatMap Pc.cells ((bF_ (cK_ (Chg.msk x1) (nl ++ (Chg.ps x1)).length) 0 (List.take k (nl ++ (Chg.ps x1)))) ++ [x2])) Hr5 := by rw [List.length_append, List.flatMap_append]; exact hr5
         refine a_ (i_ rfl) rfl (e_ (c_ rfl (d_ (a_ (P_ rfl rfl rfl (an_ (by omega) (by omega))) rfl (a_ (g_ rfl) rfl (e_ (v_ rfl ?_)))))))
         exact ai_ ⟨(k + 1, sv5, Hr5), hlx2, (by rw [ef_ hx2, if_neg (fun z => by obtain ⟨j, e, _, h1, h2⟩ := (fn_ _ _ _).1 z; have ej : j = k := (by omega); subst ej; omega)]; exact hq5)⟩ (by dsimp only; omega) ⟨rfl, rfl, rfl, rfl, rfl, rfl, rfl, rfl, rfl, rfl, rfl, rfl, rfl, rfl, rfl, trivial⟩ (j_ (b_ (b_ f_)) (j_ (b_ (b_ f_)) (j_ (b_ (b_ f_)) (j_ (b_ (b_ f_)) (b_ S_))))) (fun _ _ h => h)
      ·
       replace hr5 := aP_ hr5
       exact absurd hH.g0 hr5
     ·
      replace hr4 := aP_ hr4
      refine p_ rfl (h_ (d_ (a_ (i_ rfl) rfl (e_ (c_ rfl (D_ ?_))))))
      exact aA_ Tryz.results10 () rfl F_ (fun _ _ _ => trivial)
  ·
   replace hr2 := aP_ hr2
   exact absurd he0 hr2
 ·
  replace hr1 := of_decide_eq_true hr1
  refine p_ rfl (h_ (d_ (a_ (i_ rfl) rfl (e_ (c_ rfl (D_ ?_))))))
  exact aA_ Tryz.results10 () rfl F_ (fun _ _ _ => trivial)
end Go.Proofs.YtpdbbglpbngeiaaGreatDoor
namespace Go.Proofs.YtpdbbglpbngeiaaGreatDoor
open Go Go.Sx Go.Proofs
attribute [local irreducible] Code.wp wpList wpAnyH
open Go.Vs Go.ChangeShapes Go.WideShapes Go.ChangeAt Go.RowKit
structure Tys3 (P : Program) (tI tU tPs tK tW tH tHs tIs : TypeId) : Prop where
  u : P.underlying tU = some (.int .u32)
  w : ∃ fs, P.underlying tW = some (.struct fs) ∧ fs.toList.map (fun f => (f.type, f.offset)) = [(tPs, 0), (tK, 1)]
  h : ∃ fs, P.underlying tH = some (.struct fs) ∧ fs.toList.map (fun f => (f.type, f.offset)) = [(tPs, 0), (tU, 1)]
  hs : P.underlying tHs = some (.slice tH)
  is : P.underlying tIs = some (.slice tI)
  cu : P.cellsOf tU = 1
  cps : P.cellsOf tPs = 1
  cw : P.cellsOf tW = 3
  ch : P.cellsOf tH = 2
  bh : P.bytesOf tH = 32
  bi : P.bytesOf tI = 8
structure bigH (W : World) (c : Chg) : Prop where
  row : bD_ (vw W) c.ad (c.ps.flatMap Pc.cells)
  ok : c.ok
theorem mA_ {H : Type} {enc : TypeId × Value → H} {P : Program} {W : World} {ts te : TypeId} (hs : P.underlying ts = some (.slice te)) {n : Nat} {ad : Option Addr} {len cap : Nat} {x : DataW H × List MemPlace} (h : DataW.trod enc P W 0 (fun _ => true) true n ts [.slice ad len cap] = some x) : ad = none → cap = 0 := by
  intro e
  subst e
  rcases DataW.trod_slice hs h with ⟨h0, _⟩ | ⟨a, l, c, elems, rest, m, hn, h0, _⟩
  · cases h0; rfl
  · cases h0
section
variable {H : Type} {enc : TypeId × Value → H} {P : Program} {W : World} {tI tB tS tSs tC tCs tA tAs tP tPs tF tFs tK tU tW tH tHs tIs : TypeId} (X : Tys P tI tB tS tSs tC tCs tA tAs tP tPs) (Z : Tys2 P tI tS tSs tF tFs tK) (Y : Tys3 P tI tU tPs tK tW tH tHs tIs) {base : Nat} {v : Value} {d : DataW H} {ps : List MemPlace}
include X Y
theorem ch_of {n : Nat} {cs : List Value} {x : DataW H × List MemPlace} (h : DataW.trod enc P W 0 (fun _ => true) true n tH cs = some x) (hw : wok (x.1.weights P tH)) : ∃ c : Chg, cs = c.cells ∧ bigH W c := by
  obtain ⟨fs, hu, hL⟩ := Y.h
  obtain ⟨xs, m, hn, hx, hl, hlen, hf, hwe⟩ := fields_of hu hL h
  rw [hwe] at hw
  match xs, hlen with
  | [x0, x1], _ =>
  simp only [List.map_cons, List.map_nil, DataW.weightsEach, ea_] at hw
  have f0 := hf 0 _ rfl; have f1 := hf 1 _ rfl
  simp only [List.getElem?_cons_zero, List.getElem?_cons_succ, Y.cps, Y.cu] at f0 f1
  obtain ⟨l, ad, cap, e0, r0, b0, l0, m0⟩ := pcs_of X f0 hw.1
  have z0 := mA_ X.ps (e0 ▸ f0)
  obtain ⟨k, e1, _⟩ := DataW.trod_int Y.u f1
  rw [Y.ch] at hl
  match cs, hl with
  | [c0, c1], _ =>
  simp only [List.drop_succ_cons, List.drop_zero, List.take_succ_cons, List.take_zero, List.cons.injEq, and_true] at e0 e1
  subst e0 e1
  exact ⟨⟨l, ad, cap, k⟩, rfl, r0, l0, z0, m0, b0⟩
theorem chs_of {n : Nat} {cs : List Value} {x : DataW H × List MemPlace} (h : DataW.trod enc P W 0 (fun _ => true) true n tHs cs = some x) (hw : wok (x.1.weights P tHs)) :
    ∃ (l : List Chg) (ad : Option Addr) (cap : Nat), cs = [.slice ad l.length cap] ∧ bD_ (vw W) ad (l.flatMap Chg.cells) ∧ (∀ y ∈ l, bigH W y) ∧ l.length ≤ cap ∧ cap ≤ 4398046510976 := by
  have : Inhabited Chg := ⟨⟨[], none, 0, 0⟩⟩
  obtain ⟨l, ad, cap, e, hrow, hq, hlc, hcap⟩ := kZ_ Chg.cells 2 Chg.cells_len (by decide) (bigH W) Y.hs Y.ch (fun m' _ cs' y hy hwy => ch_of X Y hy hwy) h hw
  rw [Y.bh] at hcap; simp only [reachBytes] at hcap
  exact ⟨l, ad, cap, e, hrow, hq, hlc, by omega⟩
theorem ou_ (hval : Value.okWide P W .any base tHs v) (h : DataW.Trod enc P W 0 (fun _ => true) true tHs v d ps) (hw : wok (d.weights P tHs)) :
    ∃ (l : List Chg) (ad : Option Addr) (cap : Nat), v = .slice ad l.length cap ∧ bD_ (vw W) ad (l.flatMap Chg.cells) ∧ (∀ y ∈ l, bigH W y) ∧ l.length ≤ cap ∧ cap ≤ 4398046510976 := by
  obtain ⟨a, len, cap, rfl⟩ := okWide_slice Y.hs hval
  obtain ⟨n, hn⟩ := h
  obtain ⟨l, ad, cap', e, h1⟩ := chs_of X Y hn hw
  simp only [Value.cells, List.cons.injEq, and_true] at e
  exact ⟨l, ad, cap', e, h1⟩
end
section
variable {H : Type} {enc : TypeId × Value → H} {P : Program} {W : World} {tI tB tS tSs tC tCs tA tAs tP tPs tF tFs tK tU tW tH tHs tIs : TypeId} (X : Tys P tI tB tS tSs tC tCs tA tAs tP tPs) (Z : Tys2 P tI tS tSs tF tFs tK) (Y : Tys3 P tI tU tPs tK tW tH tHs tIs) {base : Nat} {v : Value} {d : DataW H} {ps : List MemPlace}
include X Z Y
end
section
variable {H : Type} {enc : TypeId × Value → H} {P : Program} {W : World} {tI tB tS tSs tC tCs tA tAs tP tPs tF tFs tK tU tW tH tHs tIs : TypeId} (X : Tys P tI tB tS tSs tC tCs tA tAs tP tPs) (Z : Tys2 P tI tS tSs tF tFs tK) (Y : Tys3 P tI tU tPs tK tW tH tHs tIs) {base : Nat} {v : Value} {d : DataW H} {ps : List MemPlace}
include X
end
theorem tysY : Tys3 Tryz.prog 3 65 22 28 50 67 64 58 where
  u := Tryz.underlying65
  w := ⟨_, Tryz.underlying50, rfl⟩
  h := ⟨_, Tryz.underlying67, rfl⟩
  hs := Tryz.underlying64
  is := Tryz.underlying58
  cu := by kernel_rfl
  cps := by kernel_rfl
  cw := by kernel_rfl
  ch := by kernel_rfl
  bh := by kernel_rfl
  bi := by kernel_rfl
end Go.Proofs.YtpdbbglpbngeiaaGreatDoor
