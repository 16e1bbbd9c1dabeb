/-
  Part of the proof of the law IncrementAxioms over this seat: the small logic, the data, the contracts of functions (no condition).
-/
import Derived.Test.YtpdbbglpbngeiaaGreatDoorQIncrementAxioms5
import Derived.Test.YtpdbbglpbngeiaaGreatDoorQIncrementAxioms4
import Derived.Test.YtpdbbglpbngeiaaGreatDoorQIncrementAxioms2
import Derived.Test.YtpdbbglpbngeiaaGreatDoorRows
import Derived.Test.YtpdbbglpbngeiaaGreatDoorQIncrementAxioms7
set_option linter.unusedVariables false
set_option linter.unusedSimpArgs false
set_option linter.unusedSectionVars false
namespace Go.Proofs.YtpdbbglpbngeiaaGreatDoor
open Go Go.Sx Go.Proofs
attribute [local irreducible] Code.wp wpList wpAnyH
open Go.Vs
structure Wk where
  ps : List Pc
  pad : Option Addr
  pcap : Nat
  cl : Cl
def Wk.cells (w : Wk) : List Value := .slice w.pad w.ps.length w.pcap :: w.cl.cells
theorem Wk.cells_len (w : Wk) : w.cells.length = 3 := rfl
def Wk.val (w : Wk) : Value := .agg w.cells.toArray
def Wk.no : Wk := Wk.mk [] none 0 Cl.no
structure Wk.ok (w : Wk) : Prop where
  al : w.ps.length ≤ w.pcap
  am : w.pcap ≤ maxLen
  az : w.pad = none → w.pcap = 0
  cl : w.cl.ok
theorem Wk.no_ok : Wk.no.ok := ⟨Nat.le_refl _, by simp [Wk.no], fun _ => rfl, Cl.no_ok⟩
def Wk.row (w : Wk) : List Fct := [aS_ w.pad (List.flatMap Pc.cells w.ps), aS_ w.cl.aad (List.flatMap bg_ w.cl.atoms), aS_ w.cl.fad (List.flatMap Fc.cells w.cl.facts)]
def cS_ (p : List Pc) (bu : Int) (w : Wk) (e : Int) : Prop := ∃ c, dj_ p bu c e ∧ (e = 0 → w.ps = p ∧ w.cl = c ∧ w.ok) ∧ (e ≠ 0 → w = Wk.no)
theorem cS_.ok {p : List Pc} {bu : Int} {w : Wk} {e : Int} (h : cS_ p bu w e) : w.ok := by
  obtain ⟨c, _, h1, h2⟩ := h
  by_cases he : e = 0
  · exact (h1 he).2.2
  · rw [h2 he]; exact Wk.no_ok
theorem cS_.good {p : List Pc} {bu : Int} {w : Wk} (h : cS_ p bu w 0) : w.ps = p ∧ w.ok ∧ dj_ p bu w.cl 0 := by
  obtain ⟨c, h0, h1, _⟩ := h
  obtain ⟨q1, q2, q3⟩ := h1 rfl
  exact ⟨q1, q3, q2 ▸ h0⟩
theorem cS_.len {p : List Pc} {bu : Int} {w : Wk} {e : Int} (h : cS_ p bu w e) : w.ps.length ≤ p.length ∧ w.cl.atoms.length ≤ 3 * p.length + 2 ∧ w.cl.facts.length ≤ 65536 := by
  obtain ⟨c, h0, h1, h2⟩ := h
  by_cases he : e = 0
  · obtain ⟨q1, q2, _⟩ := h1 he
    have := h0.len
    rw [q1, q2]; exact ⟨Nat.le_refl _, this⟩
  · rw [h2 he]; simp [Wk.no, Cl.no]
theorem cS_.srt {p : List Pc} {bu : Int} {w : Wk} {e : Int} (h : cS_ p bu w e) : Srt w.cl.facts := by
  obtain ⟨c, h0, h1, h2⟩ := h
  by_cases he : e = 0
  · rw [(h1 he).2.1]; exact h0.srt
  · rw [h2 he]; exact List.Pairwise.nil
section
variable {P : Program} {N : Nat} {fr : Fr} {H : Hp}
theorem dK_ {fn : Func} {t s r b n : Nat} {ty T : TypeId} {us : List Value} {u u2 : Value} (i : Nat) (hr : fn.results = #[.cell t ty, .tmp s, .tmp r]) (ha : ∀ w, (isAgg ty).run P w = .ok true w) (hs : ∀ w, (sizeOf ty).run P w = .ok n w) (hn : us.length = n) (hx : Fr.get fr t = some (zp_ b 0)) (hu : Fr.get fr s = some u) (hu2 : Fr.get fr r = some u2)
    (hi : H[i]? = some (b, .cells us.toArray T (0, 0))) (a : Act) (v : Vw) (h1 : Fr.sat N fr a) (h2 : v.sat H) : (results fn a.tmps).run P v.w = .ok (.tuple #[.agg us.toArray, u, u2]) v.w := by
  have e := h1.val t _ hx
  have e2 := h1.val s _ hu
  have e3 := h1.val r _ hu2
  have hl := de_ (t := ty) (w := v.w) (b := b) (off := 0) ha hs hn (fun j y hj => by rw [Nat.zero_add, eK_ h2 hi]; simpa using hj)
  simp [results, hr, e, e2, e3, asAddr, hl]
end
theorem eN_ : iY_ Tryz.prog 50 [(0, 1), (1, 2)] [.slice none 0 0, .slice none 0 0, .slice none 0 0] := ⟨_, cN_, aR_, fun w => by simp [bU_, ay_]⟩
theorem kA_ (bu : Int) : Fn0 Tryz.prog 80 #[.int .i64 bu] (.bool (decide (0 ≤ bu ∧ bu ≤ 1073741824))) := by
  refine M_ Tryz.func80 rfl rfl Tryz.ntmps80 rfl fun v0 => ?_
  refine f_ (c_ (a_ (g_ rfl) rfl (d_ (b_ rfl (f_ (c_ (a_ (h_ rfl) rfl (x_ (dI_ rfl rfl) rfl fun r1 hr1 => ?_))))))))
  refine a_ (h_ rfl) rfl ?_
  cases r1
  · skip
    replace hr1 := of_decide_eq_false hr1
    refine t_ rfl rfl rfl rfl (t_ rfl rfl rfl rfl (a_ (N_ rfl rfl) rfl (a_ (g_ rfl) rfl (d_ (b_ rfl (B_ ?_))))))
    exact as_ Tryz.results80 () (E_ rfl (by simp; omega)) W_ (fun _ _ _ => trivial)
  · skip
    replace hr1 := of_decide_eq_true hr1
    refine o_ rfl rfl (a_ (h_ rfl) rfl (o_ rfl rfl (x_ (cJ_ rfl rfl) rfl fun r2 hr2 => ?_)))
    refine a_ (R_ rfl rfl) rfl (a_ (g_ rfl) rfl (d_ (b_ rfl (B_ ?_))))
    exact as_ Tryz.results80 () (E_ rfl (by rw [← hr2]; simp; omega)) W_ (fun _ _ _ => trivial)
theorem rh_ (p : List Pc) (pad : Option Addr) (pcap : Nat) (hc : p.length ≤ pcap) (hl : p.length ≤ 100000000) : Tri Tryz.prog 78 #[.slice pad (List.length p) pcap] [] [aS_ pad (List.flatMap Pc.cells p)] (fun y : {y : Option Addr × Nat // (p).length ≤ y.2 ∧ y.2 ≤ maxLen ∧ (y.1 = none → y.2 = 0)} => .slice y.1.1 (p).length y.1.2) (fun _ => []) (fun y => [aS_ y.1.1 ((p).flatMap Pc.cells)]) := by
  refine M_ Tryz.func78 rfl rfl Tryz.ntmps78 rfl fun v0 => ?_
  refine f_ (c_ (a_ (g_ rfl) rfl (d_ (b_ rfl (f_ (f_ (c_ (a_ (h_ rfl) rfl (x_ (lZ_ Tryz.underlying22 rfl rfl) rfl fun r1 hr1 => ?_)))))))))
  refine d_ (b_ rfl ?_)
  cases r1
  · skip
    replace hr1 := of_decide_eq_false hr1
    refine p_ rfl (A_ (b_ rfl (f_ (c_ (kL_ G_ U_ rfl fun b1 => ?_)))))
    refine at_ i_ (a_ (h_ rfl) rfl (gN_ (news := List.flatMap Pc.cells p) kh_ (mk_ b1 47 10) rfl rfl (fun q => absurd q (by assumption)) hc ba_ (by rw [ea_ Pc.cells 10 Pc.cells_len]) (fun v _ h => by exact h.1) (fun u hu => bV_ Pc.cells_one hu) (by simp only [maxLen]; ((try simp only [List.length_nil]); omega)) (by ((try simp only [List.length_nil]); omega)) rfl fun sv1 Hr1 hr1 => ?_))
    refine at_ List.perm_append_comm ?_
    have hq1 : bk_ 47 10 sv1 (List.length (([] : List Pc) ++ p)) (List.flatMap Pc.cells (([] : List Pc) ++ p)) Hr1 := by rw [List.length_append, List.flatMap_append]; exact hr1
    refine a_ (g_ rfl) rfl (d_ (b_ rfl (B_ (dS_ hq1 ba_ fun ad2 cp2 had2 hcad2 hmad2 hzad2 => ?_))))
    exact as_ Tryz.results78 ⟨(ad2, cp2), hcad2, hmad2, hzad2⟩ (gn_ rfl had2) W_ (fun v _ h => ⟨h.1, trivial⟩)
  · skip
    replace hr1 := of_decide_eq_true hr1
    refine n_ rfl (f_ (c_ (a_ (g_ rfl) rfl (d_ (b_ rfl (B_ (qD_ (p := List.flatMap Pc.cells p = []) (fun v _ h => by have q := h.1; rw [show pad = none by assumption] at q; exact mt_ q) fun hz => ?_)))))))
    have hz2 : p = [] := List.eq_nil_of_length_eq_zero (by have := congrArg List.length hz; rw [ea_ Pc.cells 10 Pc.cells_len] at this; simp at this; omega)
    subst hz2
    exact as_ Tryz.results78 ⟨(none, 0), by simp⟩ rfl W_ (fun _ _ _ => ⟨.inl rfl, trivial⟩)
theorem hO_ (p : List Pc) (pad : Option Addr) (pcap : Nat) (bu : Int) (hsm : ∀ x ∈ p, x.sm) (hc : p.length ≤ pcap) (hp : p.length ≤ 100000000) : Tri Tryz.prog 34 #[.slice pad (List.length p) pcap, .int .i64 bu] [] [aS_ pad (List.flatMap Pc.cells p), gB_] (fun y : {y : Wk × Int // cS_ p bu y.1 y.2} => .tuple #[y.1.1.val, .int .i64 y.1.2]) (fun _ => []) (fun y => y.1.1.row) := by
  refine M_ Tryz.func34 rfl rfl Tryz.ntmps34 rfl fun v0 => ?_
  refine f_ (c_ (al_ cN_ rfl fun b1 => ?_))
  refine a_ (g_ rfl) rfl (d_ (b_ rfl (f_ (c_ (a_ (h_ rfl) rfl (a_ (h_ rfl) rfl (Q_ (sJ_ p pad pcap bu hsm (by omega)) rfl W_ (fun v _ h => by exact ⟨h.1, h.2.1, trivial⟩) rfl fun ⟨⟨c1, e1⟩, hA1⟩ => ?_)))))))
  dsimp only
  dsimp only at hA1
  refine a_ (h_ rfl) rfl (a_ (ae_ rfl rfl) rfl (a_ (ae_ rfl rfl) rfl (al_ Tryz.zeroValue28 rfl fun b2 => ?_)))
  refine Z_ 0 ay_ rfl rfl rfl rfl rfl rfl (a_ (g_ rfl) rfl (d_ (b_ rfl (f_ (f_ (c_ (a_ (h_ rfl) rfl (x_ (bR_ rfl rfl) rfl fun r1 hr1 => ?_))))))))
  refine d_ (b_ rfl ?_)
  cases r1
  · skip
    replace hr1 := bc_ hr1
    refine p_ rfl (A_ (b_ rfl (f_ ?_)))
    refine aC_ ((b2, .cells (Cl.cells c1).toArray 28 (0, 0)) :: []) (by kernel_rfl) ?_
    refine ad_ 4 [0, 2] (by kernel_rfl) (fun _ a b => ⟨Vw.sat.sub (a.perm i_), b⟩) (k_ rfl (h_ rfl) rfl (k_ rfl (L_ 0 cm_ ay_ rfl rfl rfl) rfl (ac_ (O_ 1 rfl (by kernel_rfl) (Q_ (rh_ p pad pcap (by omega) (by omega)) rfl W_ (fun v _ h => by exact ⟨h.2.2.1, trivial⟩) rfl fun ⟨⟨cad, ccap⟩, hcl1, hcl2, hcl3⟩ => ?_)))))
    dsimp only
    dsimp only at hcl1 hcl2 hcl3
    refine d_ (r_ rfl (C_ (fun _ a b => ⟨Vw.sat.sub (a.perm i_), b.2⟩) (ad_ 2 [3] (by kernel_rfl) (fun _ a b => ⟨Vw.sat.sub (a.perm i_), b.2⟩) (k_ rfl (ag_ eN_ rfl rfl) rfl (ac_ (O_ 4 rfl (by kernel_rfl) (Z_ 1 am_ rfl rfl rfl rfl rfl rfl (d_ (r_ rfl ?_)))))))))
    refine C_ (fun _ a b => ⟨Vw.sat.sub (a.perm i_), b.2⟩) (ad_ 0 [5] (by kernel_rfl) (fun _ a b => ⟨Vw.sat.sub (a.perm i_), b.2⟩) (k_ rfl (g_ rfl) rfl (ac_ (ab_ (by kernel_rfl) (b_ rfl (B_ ?_))))))
    exact dY_ ⟨((Wk.mk p cad ccap c1), 0), ⟨c1, (by assumption : e1 = 0) ▸ hA1, fun _ => ⟨rfl, rfl, ⟨hcl1, hcl2, hcl3, hA1.ok⟩⟩, fun q => absurd rfl q⟩⟩ (fun aa v h1 h2 => ev_ (us := Wk.cells (Wk.mk p cad ccap c1)) 1 Tryz.results34 bm_ am_ rfl rfl rfl rfl aa v h1 h2) W_ (fun v _ h => by exact ⟨h.1, h.2.1, h.2.2.1, trivial⟩)
  · skip
    replace hr1 := bb_ hr1
    refine n_ rfl (f_ (c_ (a_ (ag_ eN_ rfl rfl) rfl (a_ (h_ rfl) rfl (Z_ 1 am_ rfl rfl rfl rfl rfl rfl (a_ (g_ rfl) rfl (d_ (b_ rfl (B_ ?_)))))))))
    exact dY_ ⟨((Wk.mk [] none 0 (Cl.mk [] none 0 [] none 0)), e1), ⟨c1, hA1, fun q => absurd q (by assumption), fun _ => rfl⟩⟩ (fun aa v h1 h2 => ev_ (us := Wk.cells (Wk.mk [] none 0 (Cl.mk [] none 0 [] none 0))) 1 Tryz.results34 bm_ am_ rfl rfl rfl rfl aa v h1 h2) W_ (fun v _ h => by exact ⟨.inl rfl, .inl rfl, .inl rfl, trivial⟩)
theorem jP_ {K : Type} [DecidableEq K] {l q : List K} {i : Nat} {x : K} (h : ∀ f, f ∈ q ↔ f ∈ l.take i) (hx : l[i]? = some x) : ∀ f, f ∈ (if x ∈ q then q else q ++ [x]) ↔ f ∈ l.take (i + 1) := fun f => by
  rw [List.take_add_one, hx, Option.toList_some, List.mem_append, List.mem_singleton, ← h]
  split
  · rename_i hm
    exact ⟨.inl, fun q => q.elim id fun e => e ▸ hm⟩
  · rw [List.mem_append, List.mem_singleton]
def bF_ (l k : List Fc) : List Fc := l.filter fun f => !decide (f ∈ k)
theorem ii_ {l k : List Fc} {i : Nat} {x : Fc} (h : l[i]? = some x) : bF_ (l.take (i + 1)) k = bF_ (l.take i) k ++ (if x ∈ k then [] else [x]) := by
  unfold bF_
  rw [hj_ h]
  by_cases hx : x ∈ k <;> simp [hx]
theorem ef_ {l k q : List Fc} (h : ∀ f, f ∈ q ↔ f ∈ k) : bF_ l q = bF_ l k := by
  unfold bF_; congr 1; funext f; rw [Bool.eq_iff_iff]; simp [h]
theorem gS_ (l k : List Fc) : (bF_ l k).length ≤ l.length := List.length_filter_le _ _
theorem nh_ {l k : List Fc} {f : Fc} : f ∈ bF_ l k ↔ f ∈ l ∧ f ∉ k := by simp [bF_, List.mem_filter]
theorem kk_ (c : Cl) (hf : c.facts.length ≤ 1000000000) : Tri Tryz.prog 82 #[Cl.val c] [] [aS_ (Cl.fad c) (List.flatMap Fc.cells (Cl.facts c))] (fun y : {y : Nat × Array MapEntry × Nat × List Fc // SetE Fc.val y.2.1 y.2.2.2 ∧ ∀ f, f ∈ y.2.2.2 ↔ f ∈ c.facts} => .map (some y.1.1)) (fun y => [(y.1.1, .map y.1.2.1 y.1.2.2.1)]) (fun _ => []) := by
  refine M_ Tryz.func82 rfl rfl Tryz.ntmps82 rfl fun v0 => ?_
  refine f_ (c_ (aF_ rfl rfl fun b1 => ?_))
  refine a_ (g_ rfl) rfl (d_ (b_ rfl (f_ (c_ (a_ (j_ bf_ rfl rfl rfl cu_) rfl (a_ (q_ 0 bX_ rfl rfl rfl) rfl (a_ (ah_ aj_ rfl) rfl (nK_ Tryz.runUnderlying122 rfl rfl fun b2 => ?_))))))))
  refine a_ (g_ rfl) rfl (d_ (b_ rfl (f_ (f_ (c_ (a_ (j_ bf_ rfl rfl rfl cu_) rfl (a_ (q_ 1 bX_ rfl rfl rfl) rfl (a_ (ah_ aj_ rfl) rfl (a_ (h_ rfl) rfl ?_)))))))))
  refine d_ (b_ rfl (S_ ?_))
  refine aV_ (ι := {y : Nat × Array MapEntry × Nat × List Fc // y.1 ≤ List.length (Cl.facts c) ∧ SetE Fc.val y.2.1 y.2.2.2 ∧ (∀ f, f ∈ y.2.2.2 ↔ f ∈ List.take y.1 (Cl.facts c))}) (fun y => [(1, zp_ b1 0), (2, .map (some b2)), (10, .slice (Cl.fad c) (List.length (Cl.facts c)) (Cl.fcap c)), (11, .int .i64 (List.length (Cl.facts c) : Int)), (12, .int .i64 (y.1.1 : Int))]) (fun y => ((b2, .map y.1.2.1 y.1.2.2.1) :: ((b1, .cells (Cl.cells c).toArray 28 (0, 0)) :: []))) (fun y => [aS_ (Cl.fad c) (List.flatMap Fc.cells (Cl.facts c))]) (fun y => List.length (Cl.facts c) - y.1.1) ⟨((0 : Nat), #[], 0, ([] : List Fc)), by simp, SetE.nil, by simp⟩ ⟨rfl, rfl, rfl, rfl, rfl, trivial⟩ (l_ i_ i_) (fun _ _ h => h) ?_
  rintro ⟨⟨i, es, ce, q⟩, hi, hE, hq⟩
  dsimp only at hi hE hq ⊢
  refine f_ (c_ (x_ (az_ rfl rfl) rfl fun r1 hr1 => ?_))
  refine d_ (b_ rfl (f_ ?_))
  cases r1
  · skip
    replace hr1 := of_decide_eq_false hr1
    refine p_ rfl (aD_ rfl (b_ rfl (f_ (c_ (a_ (h_ rfl) rfl (a_ (g_ rfl) rfl (d_ (b_ rfl (B_ ?_)))))))))
    rw [List.take_of_length_le (by omega)] at hq
    exact as_ Tryz.results82 ⟨(b2, es, ce, q), hE, hq⟩ rfl i_ (fun _ _ _ => trivial)
  · skip
    replace hr1 := of_decide_eq_true hr1
    have hlx1 : i < List.length (Cl.facts c) := by omega
    obtain ⟨x1, hx1⟩ : ∃ e0, (Cl.facts c)[i]? = some e0 := ⟨_, List.getElem?_eq_getElem hlx1⟩
    have hmx1 : x1 ∈ (Cl.facts c) := List.mem_of_getElem? hx1
    refine n_ rfl (A_ (b_ rfl (f_ (S_ (f_ (c_ (a_ (ak_ aj_ X_ rfl rfl (fun v _ h => aL_ (n := 6) Fc.cells_len (by decide) (by exact h.1) hx1) (by omega) (by first | omega | (simp; done))) rfl (a_ (aE_ (ad := (Cl.fad c)) (us := Fc.cells x1) au_ X_ rfl (fun v _ h => by exact h.1) (Fc.cells_len _) (an_ Fc.cells_len hx1)) rfl (al_ bt_ rfl fun b3 => ?_)))))))))
    refine Z_ 0 X_ rfl rfl rfl rfl rfl rfl (d_ (b_ rfl (c_ (a_ (h_ rfl) rfl (a_ (L_ 0 au_ X_ rfl rfl rfl) rfl (fK_ (k := x1) 1 gO_ (.inr rfl) Tryz.runUnderlying122 rfl rfl rfl rfl hE fun ej1 cj1 hj1 => ?_))))))
    refine d_ (b_ rfl (c_ (a_ (V_ rfl rfl rfl (aq_ (by omega) (by omega))) rfl (a_ (h_ rfl) rfl (d_ (r_ rfl ?_))))))
    exact ao_ ⟨(i + 1, ej1, cj1, (if x1 ∈ q then q else q ++ [x1])), hlx1, hj1, jP_ hq hx1⟩ (by dsimp only; omega) ⟨rfl, rfl, rfl, rfl, rfl, trivial⟩ (l_ (e_ i_) (e_ i_)) (fun _ _ h => h)
theorem fhas_c (mb : Nat) (es : Array MapEntry) (ce : Nat) (q : List Fc) (hE : SetE Fc.val es q) (f : Fc) : Tri Tryz.prog 84 #[.map (some mb), Fc.val f] [(mb, .map es ce)] [] (fun _ : Unit => .bool (decide (f ∈ q))) (fun _ => [(mb, .map es ce)]) (fun _ => []) := by
  refine M_ Tryz.func84 rfl rfl Tryz.ntmps84 rfl fun v0 => ?_
  refine f_ (c_ (aF_ rfl rfl fun b1 => ?_))
  refine a_ (g_ rfl) rfl (d_ (b_ rfl (f_ (c_ (a_ (h_ rfl) rfl (a_ (L_ 0 au_ X_ rfl rfl rfl) rfl (x_ (ej_ (k := f) gO_ Tryz.runUnderlying122 db_ rfl rfl hE (fun v h _ => (h.own _ (List.mem_of_getElem? (i := 1) rfl)).1)) rfl fun r1 hr1 => ?_)))))))
  refine a_ (g_ rfl) rfl (d_ (b_ rfl (B_ ?_)))
  exact as_ Tryz.results84 () (E_ rfl hr1.symm) (e_ i_) (fun _ _ _ => trivial)
theorem gR_ (l : List Fc) (lad : Option Addr) (lcap : Nat) (mb : Nat) (es : Array MapEntry) (ce : Nat) (q : List Fc) (hE : SetE Fc.val es q) (hl : l.length ≤ 1000000000) : Tri Tryz.prog 83 #[.slice lad (List.length l) lcap, (.func (.func 84) #[.map (some mb)] #[])] [(mb, .map es ce)] [aS_ lad (List.flatMap Fc.cells l)] (fun y : {y : Option Addr × Nat // ((bF_ l q)).length ≤ y.2 ∧ y.2 ≤ maxLen ∧ (y.1 = none → y.2 = 0)} => .slice y.1.1 ((bF_ l q)).length y.1.2) (fun _ => [(mb, .map es ce)]) (fun y => [aS_ y.1.1 (((bF_ l q)).flatMap Fc.cells)]) := by
 refine M_ Tryz.func83 rfl rfl Tryz.ntmps83 rfl fun v0 => ?_
 refine f_ (c_ (a_ (g_ rfl) rfl (d_ (b_ rfl (kE_ (f_ (kF_ (b_ rfl (f_ ?_)))))))))
 refine f_ (c_ (a_ (h_ rfl) rfl (a_ (ah_ aj_ rfl) rfl (a_ (h_ rfl) rfl (d_ (b_ rfl (S_ ?_)))))))
 refine aV_ (ι := {y : Nat × Value × Hp // y.1 ≤ List.length l ∧ bk_ 41 6 y.2.1 (List.length (bF_ (List.take y.1 l) q)) (List.flatMap Fc.cells (bF_ (List.take y.1 l) q)) y.2.2}) (fun y => [(0, .slice lad (List.length l) lcap), (1, (.func (.func 84) #[.map (some mb)] #[])), (4, y.1.2.1), (7, .slice lad (List.length l) lcap), (8, .int .i64 (List.length l : Int)), (9, .int .i64 (y.1.1 : Int))]) (fun y => ((mb, .map es ce) :: y.1.2.2)) (fun y => [aS_ lad (List.flatMap Fc.cells l)]) (fun y => List.length l - y.1.1) ⟨((0 : Nat), (.slice none 0 0), []), by simp, (bk_.nil _ _)⟩ ⟨rfl, rfl, rfl, rfl, rfl, rfl, trivial⟩ i_ (fun _ _ h => h) ?_
 rintro ⟨⟨i, sv_Rfc, H_Rfc⟩, hi, hr_Rfc⟩
 dsimp only at hi hr_Rfc ⊢
 have hel := gS_ (List.take i l) q
 rw [List.length_take] at hel
 refine f_ (c_ (x_ (az_ rfl rfl) rfl fun r1 hr1 => ?_))
 refine d_ (b_ rfl (f_ ?_))
 cases r1
 ·
  replace hr1 := of_decide_eq_false hr1
  refine p_ rfl (aD_ rfl (b_ rfl (f_ (c_ (a_ (h_ rfl) rfl (a_ (g_ rfl) rfl (d_ (b_ rfl (B_ ?_)))))))))
  have e9 : (bF_ (List.take i l) q) = bF_ l q := by rw [List.take_of_length_le (by omega)]
  have hw1 : bk_ 41 6 sv_Rfc (List.length (bF_ l q)) (List.flatMap Fc.cells (bF_ l q)) H_Rfc := by have q9 := hr_Rfc; rw [e9] at q9; exact q9
  refine dS_ hw1 ai_ fun ad2 cp2 had2 hcad2 hmad2 hzad2 => ?_
  exact as_ Tryz.results83 ⟨(ad2, cp2), hcad2, hmad2, hzad2⟩ (gn_ rfl had2) i_ (fun v _ h => ⟨h.1, trivial⟩)
 ·
  replace hr1 := of_decide_eq_true hr1
  have hlx1 : i < List.length l := by omega
  obtain ⟨x1, hx1⟩ : ∃ e0, l[i]? = some e0 := ⟨_, List.getElem?_eq_getElem hlx1⟩
  have hmx1 : x1 ∈ l := List.mem_of_getElem? hx1
  refine n_ rfl (A_ (b_ rfl (f_ (S_ (f_ (c_ (a_ (ak_ aj_ X_ rfl rfl (fun v _ h => aL_ (n := 6) Fc.cells_len (by decide) (by exact h.1) hx1) (by omega) (by first | omega | (simp; done))) rfl (a_ (aE_ (ad := lad) (us := Fc.cells x1) au_ X_ rfl (fun v _ h => by exact h.1) (Fc.cells_len _) (an_ Fc.cells_len hx1)) rfl (al_ bt_ rfl fun b1 => ?_)))))))))
  refine Z_ 0 X_ rfl rfl rfl rfl rfl rfl (d_ (b_ rfl (f_ (f_ (c_ (a_ (h_ rfl) rfl (a_ (L_ 0 au_ X_ rfl rfl rfl) rfl (ce_ (first := [.map (some mb)]) (cap := []) (fhas_c mb es ce q hE x1) rfl rfl (e_ i_) (fun _ _ _ => by exact trivial) rfl fun r2 hr2 => ?_))))))))
  refine d_ (b_ rfl ?_)
  cases r2
  ·
   replace hr2 := dF hr2
   refine p_ rfl (A_ (b_ rfl (c_ (a_ (h_ rfl) rfl (a_ (L_ 1 au_ X_ rfl rfl rfl) rfl (aK_ aj_ X_ bt_ rfl rfl rfl rfl rfl rfl fun b2 => ?_))))))
   refine bd_ (news := List.flatMap Fc.cells [x1]) lI_ hr_Rfc rfl rfl (e_ (e_ ai_)) rfl (cQ_ 0 rfl) (fun u hu => bV_ Fc.cells_one hu) (by simp only [maxLen]; ((try simp only [List.length_append, List.length_cons, List.length_nil]); omega)) (by ((try simp only [List.length_append, List.length_cons, List.length_nil]); omega)) rfl fun sv2 Hr2 hr2 => ?_
   refine at_ List.perm_append_comm ?_
   have hq2 : bk_ 41 6 sv2 (List.length ((bF_ (List.take i l) q) ++ [x1])) (List.flatMap Fc.cells ((bF_ (List.take i l) q) ++ [x1])) Hr2 := by rw [List.length_append, List.flatMap_append]; exact hr2
   refine a_ (g_ rfl) rfl (d_ (b_ rfl (c_ (a_ (V_ rfl rfl rfl (aq_ (by omega) (by omega))) rfl (a_ (h_ rfl) rfl (d_ (r_ rfl ?_)))))))
   exact ao_ ⟨(i + 1, sv2, Hr2), hlx1, (by rw [ii_ hx1, if_neg (by assumption)]; exact hq2)⟩ (by dsimp only; omega) ⟨rfl, rfl, rfl, rfl, rfl, rfl, trivial⟩ (l_ (e_ i_) (e_ ai_)) (fun _ _ h => h)
  ·
   replace hr2 := dT hr2
   refine n_ rfl (aD_ rfl (b_ rfl (c_ (a_ (V_ rfl rfl rfl (aq_ (by omega) (by omega))) rfl (a_ (h_ rfl) rfl (d_ (r_ rfl ?_)))))))
   exact ao_ ⟨(i + 1, sv_Rfc, H_Rfc), hlx1, (by rw [ii_ hx1, if_pos (by assumption), List.append_nil]; exact hr_Rfc)⟩ (by dsimp only; omega) ⟨rfl, rfl, rfl, rfl, rfl, rfl, trivial⟩ (l_ i_ ai_) (fun _ _ h => h)
end Go.Proofs.YtpdbbglpbngeiaaGreatDoor
namespace Go.Proofs.YtpdbbglpbngeiaaGreatDoor
open Go Go.Sx Go.Proofs
attribute [local irreducible] Code.wp wpList wpAnyH
open Go.Vs
structure PL where
  l : List Pc
  ad : Option Addr
  cap : Nat
def PL.cells (x : PL) : List Value := [.slice x.ad x.l.length x.cap]
theorem PL.cells_len (x : PL) : x.cells.length = 1 := rfl
structure PL.ok (x : PL) : Prop where
  le : x.l.length ≤ x.cap
  nz : x.ad = none → x.cap = 0
  sh : x.l.length ≤ 100000
def plF (xs : List PL) : Fct where
  p v := ∀ x ∈ xs, ca_ v x.ad (List.flatMap Pc.cells x.l)
  mono := fun v v' h hp x hx => (aS_ x.ad (List.flatMap Pc.cells x.l)).mono v v' h (hp x hx)
def eT_ (xs : List PL) : List Pc := List.flatMap PL.l xs
theorem nH_ {xs : List PL} {i : Nat} {x : PL} (h : xs[i]? = some x) : eT_ (xs.take (i + 1)) = eT_ (xs.take i) ++ x.l := sg_ h
theorem po_ {xs : List PL} (h : ∀ x ∈ xs, x.ok) (i : Nat) : (eT_ (xs.take i)).length ≤ min i xs.length * 100000 := by
  have := sI_ (g := PL.l) (n := 100000) (xs.take i) fun x hx => (h x (List.mem_of_mem_take hx)).sh
  rwa [List.length_take] at this
theorem eqS_c (l m : List Str) (ad ae : Option Addr) (cap cpe : Nat) (hl : l.length ≤ 1000000000000) (hm : m.length ≤ 1000000000000) : Tri Tryz.prog 128 #[.slice ad (List.length l) cap, .slice ae (List.length m) cpe] [] [aS_ ad (List.flatMap bg_ l), aS_ ae (List.flatMap bg_ m)] (fun _ : Unit => .bool (decide (l = m))) (fun _ => []) (fun _ => []) := by
 refine M_ Tryz.func128 rfl rfl Tryz.ntmps128 rfl fun v0 => ?_
 refine f_ (c_ (a_ (g_ rfl) rfl (d_ (b_ rfl (f_ (f_ (c_ (a_ (h_ rfl) rfl (a_ (ah_ P_ rfl) rfl ?_)))))))))
 refine a_ (h_ rfl) rfl (a_ (ah_ P_ rfl) rfl (x_ (bR_ rfl rfl) rfl fun r1 hr1 => ?_))
 refine d_ (b_ rfl ?_)
 cases r1
 ·
  replace hr1 := bc_ hr1
  refine p_ rfl (A_ (b_ rfl (f_ (f_ (c_ (a_ (h_ rfl) rfl (a_ (ah_ P_ rfl) rfl (a_ (h_ rfl) rfl (d_ ?_)))))))))
  refine b_ rfl (S_ ?_)
  have hlm : List.length l = List.length m := by omega
  refine aV_ (ι := {y : Nat // y ≤ List.length l ∧ List.take y l = List.take y m}) (fun y => [(0, .slice ad (List.length l) cap), (1, .slice ae (List.length m) cpe), (12, .int .i64 (List.length l : Int)), (13, .int .i64 (y.1 : Int))]) (fun y => ([])) (fun y => [aS_ ad (List.flatMap bg_ l), aS_ ae (List.flatMap bg_ m)]) (fun y => List.length l - y.1) ⟨(0 : Nat), by simp, by simp⟩ ⟨rfl, rfl, rfl, rfl, trivial⟩ W_ (fun _ _ h => h) ?_
  rintro ⟨i, hi, he⟩
  dsimp only at hi he ⊢
  refine f_ (c_ (x_ (az_ rfl rfl) rfl fun r2 hr2 => ?_))
  refine d_ (b_ rfl (f_ ?_))
  cases r2
  ·
   replace hr2 := of_decide_eq_false hr2
   refine p_ rfl (aD_ rfl (b_ rfl (f_ (c_ (a_ (g_ rfl) rfl (d_ (b_ rfl (B_ ?_))))))))
   exact as_ Tryz.results128 () (E_ rfl (by symm; apply decide_eq_true; rwa [List.take_of_length_le (by omega), List.take_of_length_le (by omega)] at he)) W_ (fun _ _ _ => trivial)
  ·
   replace hr2 := of_decide_eq_true hr2
   have hlx1 : i < List.length l := by omega
   obtain ⟨x1, hx1⟩ : ∃ e0, l[i]? = some e0 := ⟨_, List.getElem?_eq_getElem hlx1⟩
   have hmx1 : x1 ∈ l := List.mem_of_getElem? hx1
   have hlx2 : i < List.length m := by omega
   obtain ⟨x2, hx2⟩ : ∃ e0, m[i]? = some e0 := ⟨_, List.getElem?_eq_getElem hlx2⟩
   have hmx2 : x2 ∈ m := List.mem_of_getElem? hx2
   refine n_ rfl (A_ (b_ rfl (f_ (S_ (f_ (c_ (a_ (h_ rfl) rfl (a_ (g_ rfl) rfl (d_ ?_)))))))))
   refine b_ rfl (f_ ?_)
   refine aN_ (by kernel_rfl) ?_
   refine ad_ 0 [0, 1, 2, 3, 4, 5, 6, 7, 8] (by kernel_rfl) (fun _ a b => ⟨er_ a, b⟩) (k_ rfl (h_ rfl) rfl (k_ rfl (h_ rfl) rfl (k_ rfl (ak_ P_ s_ rfl rfl (fun v _ h => aL_ (n := 1) aX_ (by decide) (by exact h.1) hx1) (by omega) (by first | omega | (simp; done))) rfl (k_ rfl (bH_ (ad := ad) w_ rfl (fun v _ h => by exact h.1) (an_ aX_ hx1 0 _ rfl)) rfl (k_ rfl (h_ rfl) rfl (k_ rfl (h_ rfl) rfl (k_ rfl (ak_ P_ s_ rfl rfl (fun v _ h => aL_ (n := 1) aX_ (by decide) (by exact h.2.1) hx2) (by omega) (by first | omega | (simp; done))) rfl (k_ rfl (bH_ (ad := ae) w_ rfl (fun v _ h => by exact h.2.1) (an_ aX_ hx2 0 _ rfl)) rfl ?_))))))))
   refine ds_ rfl (eI_ rfl rfl) rfl fun r3 hr3 => ?_
   refine ac_ (ab_ (by kernel_rfl) (b_ rfl ?_))
   cases r3
   ·
    replace hr3 := bc_ hr3
    refine p_ rfl (A_ (b_ rfl (c_ (a_ (V_ rfl rfl rfl (aq_ (by omega) (by omega))) rfl (a_ (h_ rfl) rfl (d_ (r_ rfl ?_)))))))
    exact ao_ ⟨i + 1, hlx1, by rw [List.take_add_one, hx1, List.take_add_one, hx2, he]; simp_all⟩ (by dsimp only; omega) ⟨rfl, rfl, rfl, rfl, trivial⟩ W_ (fun _ _ h => h)
   ·
    replace hr3 := bb_ hr3
    refine n_ rfl (f_ (c_ (a_ (g_ rfl) rfl (d_ (b_ rfl (B_ ?_))))))
    exact as_ Tryz.results128 () (E_ rfl (by symm; apply decide_eq_false; intro e; subst e; rw [hx1] at hx2; simp_all)) W_ (fun _ _ _ => trivial)
 ·
  replace hr1 := bb_ hr1
  refine n_ rfl (f_ (c_ (a_ (g_ rfl) rfl (d_ (b_ rfl (B_ ?_))))))
  exact as_ Tryz.results128 () (E_ rfl (by symm; apply decide_eq_false; intro e; subst e; omega)) W_ (fun _ _ _ => trivial)
theorem eqF_c (l m : List Fc) (ad ae : Option Addr) (cap cpe : Nat) (hl : l.length ≤ 1000000000000) (hm : m.length ≤ 1000000000000) : Tri Tryz.prog 129 #[.slice ad (List.length l) cap, .slice ae (List.length m) cpe] [] [aS_ ad (List.flatMap Fc.cells l), aS_ ae (List.flatMap Fc.cells m)] (fun _ : Unit => .bool (decide (l = m))) (fun _ => []) (fun _ => []) := by
 refine M_ Tryz.func129 rfl rfl Tryz.ntmps129 rfl fun v0 => ?_
 refine f_ (c_ (a_ (g_ rfl) rfl (d_ (b_ rfl (f_ (f_ (c_ (a_ (h_ rfl) rfl (a_ (ah_ aj_ rfl) rfl ?_)))))))))
 refine a_ (h_ rfl) rfl (a_ (ah_ aj_ rfl) rfl (x_ (bR_ rfl rfl) rfl fun r1 hr1 => ?_))
 refine d_ (b_ rfl ?_)
 cases r1
 ·
  replace hr1 := bc_ hr1
  refine p_ rfl (A_ (b_ rfl (f_ (f_ (c_ (a_ (h_ rfl) rfl (a_ (ah_ aj_ rfl) rfl (a_ (h_ rfl) rfl (d_ ?_)))))))))
  refine b_ rfl (S_ ?_)
  have hlm : List.length l = List.length m := by omega
  refine aV_ (ι := {y : Nat // y ≤ List.length l ∧ List.take y l = List.take y m}) (fun y => [(0, .slice ad (List.length l) cap), (1, .slice ae (List.length m) cpe), (12, .int .i64 (List.length l : Int)), (13, .int .i64 (y.1 : Int))]) (fun y => ([])) (fun y => [aS_ ad (List.flatMap Fc.cells l), aS_ ae (List.flatMap Fc.cells m)]) (fun y => List.length l - y.1) ⟨(0 : Nat), by simp, by simp⟩ ⟨rfl, rfl, rfl, rfl, trivial⟩ W_ (fun _ _ h => h) ?_
  rintro ⟨i, hi, he⟩
  dsimp only at hi he ⊢
  refine f_ (c_ (x_ (az_ rfl rfl) rfl fun r2 hr2 => ?_))
  refine d_ (b_ rfl (f_ ?_))
  cases r2
  ·
   replace hr2 := of_decide_eq_false hr2
   refine p_ rfl (aD_ rfl (b_ rfl (f_ (c_ (a_ (g_ rfl) rfl (d_ (b_ rfl (B_ ?_))))))))
   exact as_ Tryz.results129 () (E_ rfl (by symm; apply decide_eq_true; rwa [List.take_of_length_le (by omega), List.take_of_length_le (by omega)] at he)) W_ (fun _ _ _ => trivial)
  ·
   replace hr2 := of_decide_eq_true hr2
   have hlx1 : i < List.length l := by omega
   obtain ⟨x1, hx1⟩ : ∃ e0, l[i]? = some e0 := ⟨_, List.getElem?_eq_getElem hlx1⟩
   have hmx1 : x1 ∈ l := List.mem_of_getElem? hx1
   have hlx2 : i < List.length m := by omega
   obtain ⟨x2, hx2⟩ : ∃ e0, m[i]? = some e0 := ⟨_, List.getElem?_eq_getElem hlx2⟩
   have hmx2 : x2 ∈ m := List.mem_of_getElem? hx2
   refine n_ rfl (A_ (b_ rfl (f_ (S_ (f_ (c_ (a_ (h_ rfl) rfl (a_ (g_ rfl) rfl (d_ ?_)))))))))
   refine b_ rfl (f_ ?_)
   refine aN_ (by kernel_rfl) ?_
   refine ad_ 0 [0, 1, 2, 3, 4, 5, 6, 7, 8] (by kernel_rfl) (fun _ a b => ⟨er_ a, b⟩) (k_ rfl (h_ rfl) rfl (k_ rfl (h_ rfl) rfl (k_ rfl (ak_ aj_ X_ rfl rfl (fun v _ h => aL_ (n := 6) Fc.cells_len (by decide) (by exact h.1) hx1) (by omega) (by first | omega | (simp; done))) rfl (k_ rfl (aE_ (ad := ad) (us := Fc.cells x1) au_ X_ rfl (fun v _ h => by exact h.1) (Fc.cells_len _) (an_ Fc.cells_len hx1)) rfl (k_ rfl (h_ rfl) rfl (k_ rfl (h_ rfl) rfl (k_ rfl (ak_ aj_ X_ rfl rfl (fun v _ h => aL_ (n := 6) Fc.cells_len (by decide) (by exact h.2.1) hx2) (by omega) (by first | omega | (simp; done))) rfl (k_ rfl (aE_ (ad := ae) (us := Fc.cells x2) au_ X_ rfl (fun v _ h => by exact h.2.1) (Fc.cells_len _) (an_ Fc.cells_len hx2)) rfl ?_))))))))
   refine ds_ rfl (fE_ (p := x1) (q := x2) rfl rfl) rfl fun r3 hr3 => ?_
   refine ac_ (ab_ (by kernel_rfl) (b_ rfl ?_))
   cases r3
   ·
    replace hr3 := of_decide_eq_false hr3
    refine p_ rfl (A_ (b_ rfl (c_ (a_ (V_ rfl rfl rfl (aq_ (by omega) (by omega))) rfl (a_ (h_ rfl) rfl (d_ (r_ rfl ?_)))))))
    exact ao_ ⟨i + 1, hlx1, by rw [List.take_add_one, hx1, List.take_add_one, hx2, he]; simp_all⟩ (by dsimp only; omega) ⟨rfl, rfl, rfl, rfl, trivial⟩ W_ (fun _ _ h => h)
   ·
    replace hr3 := of_decide_eq_true hr3
    refine n_ rfl (f_ (c_ (a_ (g_ rfl) rfl (d_ (b_ rfl (B_ ?_))))))
    exact as_ Tryz.results129 () (E_ rfl (by symm; apply decide_eq_false; intro e; subst e; rw [hx1] at hx2; simp_all)) W_ (fun _ _ _ => trivial)
 ·
  replace hr1 := bb_ hr1
  refine n_ rfl (f_ (c_ (a_ (g_ rfl) rfl (d_ (b_ rfl (B_ ?_))))))
  exact as_ Tryz.results129 () (E_ rfl (by symm; apply decide_eq_false; intro e; subst e; omega)) W_ (fun _ _ _ => trivial)
theorem qk_ (c d : Cl) (h1 : c.atoms.length ≤ 1000000000000) (h2 : c.facts.length ≤ 1000000000000) (h3 : d.atoms.length ≤ 1000000000000) (h4 : d.facts.length ≤ 1000000000000) : Tri Tryz.prog 79 #[Cl.val c, Cl.val d] [] [aS_ (Cl.aad c) (List.flatMap bg_ (Cl.atoms c)), aS_ (Cl.fad c) (List.flatMap Fc.cells (Cl.facts c)), aS_ (Cl.aad d) (List.flatMap bg_ (Cl.atoms d)), aS_ (Cl.fad d) (List.flatMap Fc.cells (Cl.facts d))] (fun _ : Unit => .bool (decide (c.atoms = d.atoms) && decide (c.facts = d.facts))) (fun _ => []) (fun _ => []) := by
  refine M_ Tryz.func79 rfl rfl Tryz.ntmps79 rfl fun v0 => ?_
  refine f_ (c_ (aF_ rfl rfl fun b1 => ?_))
  refine aF_ rfl rfl fun b2 => ?_
  refine a_ (g_ rfl) rfl (d_ (b_ rfl (f_ (c_ (a_ (j_ bf_ rfl rfl rfl bJ_) rfl (a_ (q_ 1 cI_ rfl rfl rfl) rfl (a_ (j_ bf_ rfl rfl rfl bJ_) rfl (a_ (q_ 0 cI_ rfl rfl rfl) rfl (ax_ (eqS_c (Cl.atoms c) (Cl.atoms d) (Cl.aad c) (Cl.aad d) (Cl.acap c) (Cl.acap d) (by omega) (by omega)) rfl W_ (fun v _ h => by exact ⟨h.1, h.2.2.1, trivial⟩) rfl fun r1 hr1 => ?_)))))))))
  refine a_ (h_ rfl) rfl ?_
  cases r1
  · skip
    replace hr1 := of_decide_eq_false hr1
    refine t_ rfl rfl rfl rfl (t_ rfl rfl rfl rfl (t_ rfl rfl rfl rfl (t_ rfl rfl rfl rfl (t_ rfl rfl rfl rfl (a_ (N_ rfl rfl) rfl (a_ (g_ rfl) rfl (d_ (b_ rfl (B_ ?_)))))))))
    exact as_ Tryz.results79 () (E_ rfl (by have p1 := eq_false hr1; simp only [p1, if_true, if_false, decide_true, decide_false, Bool.and_true, Bool.and_false, Bool.true_and, Bool.false_and, Bool.or_true, Bool.or_false, Bool.true_or, Bool.false_or, Bool.not_true, Bool.not_false, ne_eq, not_true_eq_false, not_false_eq_true, true_and, and_true, false_and, and_false, true_or, or_true, false_or, or_false, ite_true, ite_false, Bool.false_eq_true])) W_ (fun _ _ _ => trivial)
  · skip
    replace hr1 := of_decide_eq_true hr1
    refine o_ rfl rfl (a_ (j_ bf_ rfl rfl rfl cu_) rfl (o_ rfl rfl (a_ (q_ 1 bX_ rfl rfl rfl) rfl (o_ rfl rfl (a_ (j_ bf_ rfl rfl rfl cu_) rfl (o_ rfl rfl (a_ (q_ 0 bX_ rfl rfl rfl) rfl (o_ rfl rfl (ax_ (eqF_c (Cl.facts c) (Cl.facts d) (Cl.fad c) (Cl.fad d) (Cl.fcap c) (Cl.fcap d) (by omega) (by omega)) rfl W_ (fun v _ h => by exact ⟨h.2.1, h.2.2.2.1, trivial⟩) rfl fun r2 hr2 => ?_)))))))))
    refine a_ (R_ rfl rfl) rfl (a_ (g_ rfl) rfl (d_ (b_ rfl (B_ ?_))))
    exact as_ Tryz.results79 () (E_ rfl (by have p1 := eq_true hr1; rw [← hr2]; simp only [p1, if_true, if_false, decide_true, decide_false, Bool.and_true, Bool.and_false, Bool.true_and, Bool.false_and, Bool.or_true, Bool.or_false, Bool.true_or, Bool.false_or, Bool.not_true, Bool.not_false, ne_eq, not_true_eq_false, not_false_eq_true, true_and, and_true, false_and, and_false, true_or, or_true, false_or, or_false, ite_true, ite_false, Bool.false_eq_true])) W_ (fun _ _ _ => trivial)
def iE_ (w : Wk) (e : Int) : Prop := if bD_ w.ps ≠ 0 then e = bD_ w.ps else ∃ c e1, dj_ w.ps 1073741824 c e1 ∧ e = if e1 = 0 ∧ c.atoms = w.cl.atoms ∧ c.facts = w.cl.facts then 0 else 1
theorem iE_.uniq {w : Wk} {e f : Int} (h : iE_ w e) (k : iE_ w f) : e = f := by
  unfold iE_ at h k
  split at h
  · rename_i h1; rw [if_pos h1] at k; rw [h, k]
  · rename_i h1
    rw [if_neg h1] at k
    obtain ⟨c, e1, a1, b1⟩ := h
    obtain ⟨d, e2, a2, b2⟩ := k
    obtain ⟨q1, q2, q3⟩ := lb_ a1 a2
    rw [b1, b2, q1, q2, q3]
theorem ri_ (w : Wk) (hsm : ∀ x ∈ w.ps, x.sm) (hp : w.ps.length ≤ 100000000) (h3 : w.cl.atoms.length ≤ 1000000000000) (h4 : w.cl.facts.length ≤ 1000000000000) : Tri Tryz.prog 37 #[Wk.val w] [] [aS_ (Wk.pad w) (List.flatMap Pc.cells (Wk.ps w)), aS_ (Cl.aad (Wk.cl w)) (List.flatMap bg_ (Cl.atoms (Wk.cl w))), aS_ (Cl.fad (Wk.cl w)) (List.flatMap Fc.cells (Cl.facts (Wk.cl w))), gB_] (fun e : {e : Int // iE_ w e} => .int .i64 e.1) (fun _ => []) (fun _ => []) := by
  refine M_ Tryz.func37 rfl rfl Tryz.ntmps37 rfl fun v0 => ?_
  refine f_ (c_ (aF_ rfl rfl fun b1 => ?_))
  refine a_ (g_ rfl) rfl (d_ (b_ rfl (f_ (f_ (c_ (a_ (j_ aR_ rfl rfl rfl bU_) rfl (a_ (q_ 0 dG_ rfl rfl rfl) rfl (Q_ (lM_ (Wk.ps w) (Wk.pad w) (Wk.pcap w) (by omega) hsm) rfl W_ (fun v _ h => by exact ⟨h.1, h.2.2.2.1, trivial⟩) rfl fun _ => ?_))))))))
  refine a_ (g_ rfl) rfl (d_ (b_ rfl (f_ (c_ (a_ (h_ rfl) rfl (x_ (bR_ rfl rfl) rfl fun r1 hr1 => ?_))))))
  refine d_ (b_ rfl ?_)
  cases r1
  · skip
    replace hr1 := bc_ hr1
    have hckw := hr1
    refine p_ rfl (A_ (b_ rfl (f_ (c_ (a_ (j_ aR_ rfl rfl rfl bU_) rfl (a_ (q_ 0 dG_ rfl rfl rfl) rfl (Q_ (sJ_ (Wk.ps w) (Wk.pad w) (Wk.pcap w) 1073741824 hsm (by omega)) rfl W_ (fun v _ h => by exact ⟨h.1, h.2.2.2.1, trivial⟩) rfl fun ⟨⟨c1, e1⟩, hA1⟩ => ?_)))))))
    dsimp only
    dsimp only at hA1
    refine a_ (h_ rfl) rfl (a_ (ae_ rfl rfl) rfl (a_ (ae_ rfl rfl) rfl (al_ Tryz.zeroValue28 rfl fun b2 => ?_)))
    refine Z_ 0 ay_ rfl rfl rfl rfl rfl rfl (a_ (g_ rfl) rfl (d_ (b_ rfl (f_ (f_ (c_ (a_ (h_ rfl) rfl (x_ (bR_ rfl rfl) rfl fun r2 hr2 => ?_))))))))
    refine a_ (h_ rfl) rfl ?_
    cases r2
    · skip
      replace hr2 := bc_ hr2
      refine o_ rfl rfl (a_ (L_ 0 cm_ ay_ rfl rfl rfl) rfl (o_ rfl rfl (a_ (j_ aR_ rfl rfl rfl ay_) rfl (o_ rfl rfl (a_ (L_ 1 cm_ ay_ rfl rfl rfl) rfl (o_ rfl rfl (ax_ (qk_ c1 (Wk.cl w) (by have := hA1.len; omega) (by have := hA1.len; omega) (by omega) (by omega)) rfl W_ (fun v _ h => by exact ⟨h.1, h.2.1, h.2.2.2.1, h.2.2.2.2.1, trivial⟩) rfl fun r3 hr3 => ?_)))))))
      refine o_ rfl rfl (a_ (bG_ rfl) rfl (a_ (N_ rfl rfl) rfl (d_ (b_ rfl ?_))))
      cases r3
      · skip
        simp at hr3
        refine n_ rfl (f_ (c_ (a_ (g_ rfl) rfl (d_ (b_ rfl (B_ ?_))))))
        exact as_ Tryz.results37 ⟨1, by unfold iE_; rw [if_neg (fun q => q hckw)]; exact ⟨c1, e1, hA1, by rw [if_neg (fun q => by first | exact absurd q.1 (by assumption) | (have := q.2; simp_all))]⟩⟩ rfl W_ (fun _ _ _ => trivial)
      · skip
        simp at hr3
        refine p_ rfl (A_ (b_ rfl (f_ (c_ (a_ (g_ rfl) rfl (d_ (b_ rfl (B_ ?_))))))))
        exact as_ Tryz.results37 ⟨0, by unfold iE_; rw [if_neg (fun q => q hckw)]; exact ⟨c1, e1, hA1, by rw [if_pos ⟨by assumption, by simpa using hr3⟩]⟩⟩ rfl W_ (fun _ _ _ => trivial)
    · skip
      replace hr2 := bb_ hr2
      refine t_ rfl rfl rfl rfl (t_ rfl rfl rfl rfl (t_ rfl rfl rfl rfl (t_ rfl rfl rfl rfl (t_ rfl rfl rfl rfl (a_ (R_ rfl rfl) rfl (d_ (b_ rfl (n_ rfl (f_ ?_)))))))))
      refine c_ (a_ (g_ rfl) rfl (d_ (b_ rfl (B_ ?_))))
      exact as_ Tryz.results37 ⟨1, by unfold iE_; rw [if_neg (fun q => q hckw)]; exact ⟨c1, e1, hA1, by rw [if_neg (fun q => by first | exact absurd q.1 (by assumption) | (have := q.2; simp_all))]⟩⟩ rfl W_ (fun _ _ _ => trivial)
  · skip
    replace hr1 := bb_ hr1
    refine n_ rfl (f_ (c_ (a_ (h_ rfl) rfl (a_ (g_ rfl) rfl (d_ (b_ rfl (B_ ?_)))))))
    exact as_ Tryz.results37 ⟨(bD_ (Wk.ps w)), by unfold iE_; rw [if_pos (by assumption)]⟩ rfl W_ (fun _ _ _ => trivial)
theorem sf_ (n : Nat) (hn : n ≤ 1000000000) : Tri Tryz.prog 130 #[.slice none 0 0, .int .i64 (n : Int)] [] [] (fun y : {y : Value × Hp // bk_ 47 10 y.1 0 [] y.2} => y.1.1) (fun y => y.1.2) (fun _ => []) := by
  refine M_ Tryz.func130 rfl rfl Tryz.ntmps130 rfl fun v0 => ?_
  refine f_ (c_ (a_ (g_ rfl) rfl (d_ (b_ rfl (f_ (f_ (c_ (a_ (h_ rfl) rfl (x_ (az_ rfl rfl) rfl fun r1 hr1 => ?_)))))))))
  refine d_ (b_ rfl ?_)
  cases r1
  · skip
    replace hr1 := of_decide_eq_false hr1
    refine p_ rfl (A_ (b_ rfl (f_ (f_ (c_ (a_ (h_ rfl) rfl (a_ (h_ rfl) rfl (a_ (mb_ G_ rfl) rfl (a_ (h_ rfl) rfl ?_)))))))))
    refine a_ (ah_ G_ rfl) rfl (a_ (V_ rfl rfl rfl (aq_ (by omega) (by omega))) rfl (a_ (cb_ (V_ rfl rfl rfl (aq_ (by omega) (by omega))) (show Value.int .i64 ((n : Int) - (0 - 0)) = Value.int .i64 (n : Int) from congrArg _ (by omega))) rfl (a_ (g_ rfl) rfl (d_ (b_ rfl (f_ (c_ (a_ (h_ rfl) rfl (x_ (bK_ rfl rfl) rfl fun r2 hr2 => ?_)))))))))
    refine d_ (b_ rfl ?_)
    cases r2
    · skip
      replace hr2 := of_decide_eq_false hr2
      refine p_ rfl (A_ (b_ rfl (f_ (c_ (a_ (h_ rfl) rfl (a_ (g_ rfl) rfl (d_ (b_ rfl (B_ ?_)))))))))
      exact as_ Tryz.results130 ⟨(.slice none 0 0, []), bk_.nil _ _⟩ rfl W_ (fun _ _ _ => trivial)
    · skip
      replace hr2 := of_decide_eq_true hr2
      refine n_ rfl (c_ (a_ (h_ rfl) rfl (a_ (h_ rfl) rfl (a_ (mb_ G_ rfl) rfl (a_ (cb_ (eB_ (i := 0) (j := 0) (kl := .i64) (kh := .i64) G_ U_ rfl rfl rfl (by omega) (by omega)) (show _ = Value.slice none 0 0 from rfl)) rfl (a_ (h_ rfl) rfl (mH_ (n := n) kh_ Y_ rfl rfl (by omega) (by omega) (by simp only [maxLen]; omega) rfl fun yz bz hz => ?_)))))))
      refine a_ (h_ rfl) rfl (a_ (ah_ G_ rfl) rfl (a_ (cb_ (eB_ (i := 0) (j := 0) (kl := .i64) (kh := .i64) G_ U_ rfl rfl rfl (by omega) (by omega)) (show _ = Value.slice (some ⟨bz, 0, none⟩) 0 yz.1 by simp [mm_])) rfl (a_ (g_ rfl) rfl (d_ (b_ rfl (f_ (c_ (a_ (h_ rfl) rfl (a_ (g_ rfl) rfl ?_)))))))))
      refine d_ (b_ rfl (B_ ?_))
      exact as_ Tryz.results130 ⟨(.slice (some ⟨bz, 0, none⟩) 0 yz.1, [(bz, .cells yz.2 47 (0, 0))]), oW_ hz.2.1 hz.2.2⟩ rfl i_ (fun _ _ _ => trivial)
  · skip
    replace hr1 := of_decide_eq_true hr1
    exfalso; omega
theorem rc_ (xs : List PL) (xad : Option Addr) (xcap : Nat) (hok : ∀ x ∈ xs, x.ok) (hl : xs.length ≤ 100) : Tri Tryz.prog 81 #[.slice xad (List.length xs) xcap] [] [aS_ xad (List.flatMap PL.cells xs), plF xs] (fun y : {y : Option Addr × Nat // ((eT_ xs)).length ≤ y.2 ∧ y.2 ≤ maxLen ∧ (y.1 = none → y.2 = 0)} => .slice y.1.1 ((eT_ xs)).length y.1.2) (fun _ => []) (fun y => [aS_ y.1.1 (((eT_ xs)).flatMap Pc.cells)]) := by
 refine M_ Tryz.func81 rfl rfl Tryz.ntmps81 rfl fun v0 => ?_
 refine f_ (c_ (a_ (g_ rfl) rfl (d_ (b_ rfl (f_ (c_ (a_ (g_ rfl) rfl (d_ (b_ rfl ?_)))))))))
 refine f_ (f_ (c_ (a_ (h_ rfl) rfl (a_ (ah_ hp_ rfl) rfl (a_ (h_ rfl) rfl (d_ (b_ rfl (S_ ?_))))))))
 refine aV_ (ι := {y : Nat × Nat // y.1 ≤ List.length xs ∧ y.2 ≤ y.1 * 100000}) (fun y => [(0, .slice xad (List.length xs) xcap), (3, .int .i64 (y.1.2 : Int)), (9, .slice xad (List.length xs) xcap), (10, .int .i64 (List.length xs : Int)), (11, .int .i64 (y.1.1 : Int))]) (fun y => ([])) (fun y => [aS_ xad (List.flatMap PL.cells xs), plF xs]) (fun y => List.length xs - y.1.1) ⟨((0 : Nat), (0 : Nat)), by simp, by simp⟩ ⟨rfl, rfl, rfl, rfl, rfl, trivial⟩ W_ (fun _ _ h => h) ?_
 rintro ⟨⟨i, w⟩, hi, hw⟩
 dsimp only at hi hw ⊢
 refine f_ (c_ (x_ (az_ rfl rfl) rfl fun r1 hr1 => ?_))
 refine d_ (b_ rfl (f_ ?_))
 cases r1
 ·
  replace hr1 := of_decide_eq_false hr1
  refine p_ rfl (aD_ rfl (b_ rfl (f_ (c_ (a_ (h_ rfl) rfl (Q_ (sf_ w (by omega)) rfl W_ (fun _ _ _ => by exact trivial) rfl fun ⟨⟨svg9, Hg9⟩, hg9⟩ => ?_))))))
  dsimp only
  dsimp only at hg9
  refine at_ hd_ ?_
  have hg8 : bk_ 47 10 svg9 (List.length (eT_ (List.take 0 xs))) (List.flatMap Pc.cells (eT_ (List.take 0 xs))) Hg9 := by exact hg9
  refine a_ (g_ rfl) rfl (d_ (b_ rfl (f_ (f_ (c_ (a_ (h_ rfl) rfl (a_ (ah_ hp_ rfl) rfl (a_ (h_ rfl) rfl (d_ ?_)))))))))
  refine b_ rfl (S_ ?_)
  refine aV_ (ι := {y : Nat × Value × Hp // y.1 ≤ List.length xs ∧ bk_ 47 10 y.2.1 (List.length (eT_ (List.take y.1 xs))) (List.flatMap Pc.cells (eT_ (List.take y.1 xs))) y.2.2}) (fun y => [(0, .slice xad (List.length xs) xcap), (6, y.1.2.1), (25, .slice xad (List.length xs) xcap), (26, .int .i64 (List.length xs : Int)), (27, .int .i64 (y.1.1 : Int))]) (fun y => (y.1.2.2)) (fun y => [aS_ xad (List.flatMap PL.cells xs), plF xs]) (fun y => List.length xs - y.1.1) ⟨((0 : Nat), svg9, Hg9), by simp, hg8⟩ ⟨rfl, rfl, rfl, rfl, rfl, trivial⟩ ba_ (fun _ _ h => h) ?_
  rintro ⟨⟨j, sv_Rp, H_Rp⟩, hj, hr_Rp⟩
  dsimp only at hj hr_Rp ⊢
  have hpl := po_ hok j
  refine f_ (c_ (x_ (az_ rfl rfl) rfl fun r2 hr2 => ?_))
  refine d_ (b_ rfl (f_ ?_))
  cases r2
  ·
   replace hr2 := of_decide_eq_false hr2
   rw [List.take_of_length_le (by omega)] at hr_Rp
   refine p_ rfl (aD_ rfl (b_ rfl (f_ (c_ (a_ (h_ rfl) rfl (a_ (g_ rfl) rfl (d_ (b_ rfl (B_ ?_)))))))))
   refine dS_ hr_Rp ba_ fun ad2 cp2 had2 hcad2 hmad2 hzad2 => ?_
   exact as_ Tryz.results81 ⟨(ad2, cp2), hcad2, hmad2, hzad2⟩ (gn_ rfl had2) W_ (fun v _ h => ⟨h.1, trivial⟩)
  ·
   replace hr2 := of_decide_eq_true hr2
   have hlx2 : j < List.length xs := by omega
   obtain ⟨x2, hx2⟩ : ∃ e0, xs[j]? = some e0 := ⟨_, List.getElem?_eq_getElem hlx2⟩
   have hmx2 : x2 ∈ xs := List.mem_of_getElem? hx2
   have hsh1 := (hok x2 hmx2).sh
   refine n_ rfl (A_ (b_ rfl (f_ (S_ (f_ (c_ (a_ (ak_ hp_ bU_ rfl rfl (fun v _ h => aL_ (n := 1) PL.cells_len (by decide) (by exact h.1) hx2) (by omega) (by first | omega | (simp; done))) rfl (a_ (bH_ (ad := xad) dG_ rfl (fun v _ h => by exact h.1) (an_ PL.cells_len hx2 0 _ rfl)) rfl (a_ (g_ rfl) rfl ?_)))))))))
   refine d_ (b_ rfl (c_ (a_ (h_ rfl) rfl (a_ (h_ rfl) rfl (gN_ (news := List.flatMap Pc.cells (PL.l x2)) kh_ hr_Rp rfl rfl (hok x2 hmx2).nz (hok x2 hmx2).le ba_ (by rw [ea_ Pc.cells 10 Pc.cells_len]) (fun v _ h => by exact (h.2.1 x2 hmx2)) (fun u hu => bV_ Pc.cells_one hu) (by simp only [maxLen]; (have := (hok x2 hmx2).sh; omega)) (by (have := (hok x2 hmx2).sh; omega)) rfl fun sv1 Hr1 hr1 => ?_)))))
   refine at_ List.perm_append_comm ?_
   have hq1 : bk_ 47 10 sv1 (List.length ((eT_ (List.take j xs)) ++ (PL.l x2))) (List.flatMap Pc.cells ((eT_ (List.take j xs)) ++ (PL.l x2))) Hr1 := by rw [List.length_append, List.flatMap_append]; exact hr1
   refine a_ (g_ rfl) rfl (d_ (b_ rfl (c_ (a_ (V_ rfl rfl rfl (aq_ (by omega) (by omega))) rfl (a_ (h_ rfl) rfl (d_ (r_ rfl ?_)))))))
   exact ao_ ⟨(j + 1, sv1, Hr1), hlx2, (by rw [nH_ hx2]; exact hq1)⟩ (by dsimp only; omega) ⟨rfl, rfl, rfl, rfl, rfl, trivial⟩ ba_ (fun _ _ h => h)
 ·
  replace hr1 := of_decide_eq_true hr1
  have hlx1 : i < List.length xs := by omega
  obtain ⟨x1, hx1⟩ : ∃ e0, xs[i]? = some e0 := ⟨_, List.getElem?_eq_getElem hlx1⟩
  have hmx1 : x1 ∈ xs := List.mem_of_getElem? hx1
  have hsh1 := (hok x1 hmx1).sh
  refine n_ rfl (A_ (b_ rfl (f_ (S_ (f_ (c_ (a_ (ak_ hp_ bU_ rfl rfl (fun v _ h => aL_ (n := 1) PL.cells_len (by decide) (by exact h.1) hx1) (by omega) (by first | omega | (simp; done))) rfl (a_ (bH_ (ad := xad) dG_ rfl (fun v _ h => by exact h.1) (an_ PL.cells_len hx1 0 _ rfl)) rfl (a_ (g_ rfl) rfl ?_)))))))))
  refine d_ (b_ rfl (f_ (c_ (a_ (h_ rfl) rfl (a_ (h_ rfl) rfl (a_ (ah_ G_ rfl) rfl (a_ (V_ rfl rfl rfl (aq_ (by omega) (by omega))) rfl (a_ (g_ rfl) rfl (d_ ?_)))))))))
  refine b_ rfl (f_ (c_ (a_ (h_ rfl) rfl (x_ (az_ rfl rfl) rfl fun r3 hr3 => ?_))))
  refine d_ (b_ rfl ?_)
  cases r3
  ·
   replace hr3 := of_decide_eq_false hr3
   refine p_ rfl (A_ (b_ rfl (c_ (a_ (V_ rfl rfl rfl (aq_ (by omega) (by omega))) rfl (a_ (h_ rfl) rfl (d_ (r_ rfl ?_)))))))
   exact ao_ ⟨(i + 1, w + List.length (PL.l x1)), hlx1, by have := (hok x1 hmx1).sh; dsimp only; omega⟩ (by dsimp only; omega) ⟨rfl, (aJ_ rfl (by push_cast; rfl)), rfl, rfl, rfl, trivial⟩ W_ (fun _ _ h => h)
  ·
   replace hr3 := of_decide_eq_true hr3
   exfalso; omega
end Go.Proofs.YtpdbbglpbngeiaaGreatDoor
namespace Go.Proofs.YtpdbbglpbngeiaaGreatDoor
open Go Go.Sx Go.Proofs
attribute [local irreducible] Code.wp wpList wpAnyH
open Go.Vs
theorem keyI : KeyT Tryz.prog 3 (fun n : Int => .int .i64 n) := qM_ Y_
def gv_ (w : Wk) (p : List Pc) (bu : Int) (x : Wk) (new : List Fc) (e : Int) : Prop :=
  if bD_ p ≠ 0 then x = Wk.no ∧ new = [] ∧ e = bD_ p
  else if ¬ (0 ≤ bu ∧ bu ≤ 1073741824) then x = Wk.no ∧ new = [] ∧ e = 1
  else if 16384 < w.ps.length + p.length then x = Wk.no ∧ new = [] ∧ e = 2
  else cS_ (w.ps ++ p) bu x e ∧ new = if e = 0 then bF_ x.cl.facts w.cl.facts else []
theorem gv_.good {w : Wk} {p : List Pc} {bu : Int} {x : Wk} {new : List Fc} (h : gv_ w p bu x new 0) : bD_ p = 0 ∧ (0 ≤ bu ∧ bu ≤ 1073741824) ∧ w.ps.length + p.length ≤ 16384 ∧ cS_ (w.ps ++ p) bu x 0 ∧ new = bF_ x.cl.facts w.cl.facts := by
  unfold gv_ at h
  split at h
  · rename_i h1; exact absurd h.2.2.symm h1
  · rename_i h1
    split at h
    · exact absurd h.2.2 (by decide)
    · rename_i h2
      split at h
      · exact absurd h.2.2 (by decide)
      · rename_i h3
        exact ⟨Decidable.not_not.1 h1, Decidable.not_not.1 h2, by omega, h.1, h.2⟩
theorem gv_.ok {w : Wk} {p : List Pc} {bu : Int} {x : Wk} {new : List Fc} {e : Int} (h : gv_ w p bu x new e) : x.ok ∧ x.ps.length ≤ w.ps.length + p.length ∧ x.cl.atoms.length ≤ 3 * (w.ps.length + p.length) + 2 ∧ x.cl.facts.length ≤ 65536 ∧ new.length ≤ 65536 := by
  have no : Wk.no.ok ∧ Wk.no.ps.length ≤ w.ps.length + p.length ∧ Wk.no.cl.atoms.length ≤ 3 * (w.ps.length + p.length) + 2 ∧ Wk.no.cl.facts.length ≤ 65536 ∧ ([] : List Fc).length ≤ 65536 := ⟨Wk.no_ok, by simp [Wk.no], by simp [Wk.no, Cl.no], by simp [Wk.no, Cl.no], by simp⟩
  unfold gv_ at h
  split at h
  · obtain ⟨rfl, rfl, _⟩ := h; exact no
  · split at h
    · obtain ⟨rfl, rfl, _⟩ := h; exact no
    · split at h
      · obtain ⟨rfl, rfl, _⟩ := h; exact no
      · obtain ⟨q1, q2, q3⟩ := h.1.len
        rw [List.length_append] at q1 q2
        refine ⟨h.1.ok, q1, q2, q3, ?_⟩
        rw [h.2]
        split
        · have := gS_ x.cl.facts w.cl.facts; omega
        · simp
def pR_ (n : Nat) (l : List Int) : Prop := (∀ x ∈ l, 0 ≤ x ∧ x < n) ∧ l.Pairwise (· < ·)
instance (n : Nat) (l : List Int) : Decidable (pR_ n l) := by unfold pR_; exact inferInstance
def do_ (l : List Int) : Nat → List Pc → List Pc
  | _, [] => []
  | i, x :: r => if (i : Int) ∈ l then do_ l (i + 1) r else x :: do_ l (i + 1) r
theorem hY_ (l : List Int) : ∀ (i : Nat) (r s : List Pc), do_ l i (r ++ s) = do_ l i r ++ do_ l (i + r.length) s
  | i, [], s => by simp [do_]
  | i, x :: r, s => by
    rw [List.cons_append, do_, hY_ l (i + 1) r s, do_, List.length_cons, show i + 1 + r.length = i + (r.length + 1) by omega]
    split <;> simp
theorem jU_ {l : List Int} {p : List Pc} {i : Nat} {x : Pc} (h : p[i]? = some x) : do_ l 0 (p.take (i + 1)) = do_ l 0 (p.take i) ++ (if (i : Int) ∈ l then [] else [x]) := by
  have hi := (List.getElem?_eq_some_iff.1 h).1
  rw [List.take_add_one, h, Option.toList_some, hY_, List.length_take, Nat.min_eq_left (by omega), Nat.zero_add]
  simp only [do_]
theorem fc_ (l : List Int) : ∀ (i : Nat) (p : List Pc), ∀ x ∈ do_ l i p, x ∈ p
  | _, [], x, h => by simp [do_] at h
  | i, y :: r, x, h => by
    simp only [do_] at h
    split at h
    · exact List.mem_cons_of_mem _ (fc_ l (i + 1) r x h)
    · rcases List.mem_cons.1 h with rfl | h
      · exact List.mem_cons_self
      · exact List.mem_cons_of_mem _ (fc_ l (i + 1) r x h)
theorem fd_ (l : List Int) : ∀ (i : Nat) (p : List Pc), (do_ l i p).length ≤ p.length
  | _, [] => by simp [do_]
  | i, y :: r => by
    have := fd_ l (i + 1) r
    simp only [do_]
    split <;> simp only [List.length_cons] <;> omega
def fW_ (w : Wk) (l : List Int) (bu : Int) (x : Wk) (gone : List Fc) (e : Int) : Prop :=
  if ¬ (pR_ w.ps.length l ∧ 0 ≤ bu ∧ bu ≤ 1073741824) then x = Wk.no ∧ gone = [] ∧ e = 1
  else cS_ (do_ l 0 w.ps) bu x e ∧ gone = if e = 0 then bF_ w.cl.facts x.cl.facts else []
theorem fW_.good {w : Wk} {l : List Int} {bu : Int} {x : Wk} {g : List Fc} (h : fW_ w l bu x g 0) : pR_ w.ps.length l ∧ (0 ≤ bu ∧ bu ≤ 1073741824) ∧ cS_ (do_ l 0 w.ps) bu x 0 ∧ g = bF_ w.cl.facts x.cl.facts := by
  unfold fW_ at h
  split at h
  · exact absurd h.2.2 (by decide)
  · rename_i h1
    have h1 := Decidable.not_not.1 h1
    exact ⟨h1.1, h1.2, h.1, h.2⟩
theorem fW_.ok {w : Wk} {l : List Int} {bu : Int} {x : Wk} {g : List Fc} {e : Int} (h : fW_ w l bu x g e) : x.ok ∧ x.ps.length ≤ w.ps.length ∧ x.cl.atoms.length ≤ 3 * w.ps.length + 2 ∧ x.cl.facts.length ≤ 65536 ∧ g.length ≤ w.cl.facts.length := by
  unfold fW_ at h
  split at h
  · obtain ⟨rfl, rfl, _⟩ := h; exact ⟨Wk.no_ok, by simp [Wk.no], by simp [Wk.no, Cl.no], by simp [Wk.no, Cl.no], by simp⟩
  · obtain ⟨q1, q2, q3⟩ := h.1.len
    have := fd_ l 0 w.ps
    refine ⟨h.1.ok, by omega, by omega, q3, ?_⟩
    rw [h.2]
    split
    · exact gS_ _ _
    · simp
theorem mj_ {p : List Pc} {bu : Int} {w : Wk} {e : Int} (h : cS_ p bu w e) (he : e ≠ 0) : cS_ p bu Wk.no e := by
  obtain ⟨c, h1, _, _⟩ := h
  exact ⟨c, h1, fun q => absurd q he, fun _ => rfl⟩
set_option maxHeartbeats 1000000 in
theorem add_c (w : Wk) (p : List Pc) (pad : Option Addr) (pcap : Nat) (bu : Int) (hsw : ∀ x ∈ w.ps, x.sm) (hw1 : w.ps.length ≤ w.pcap) (hw2 : w.pad = none → w.pcap = 0) (hw3 : w.ps.length ≤ 16384) (hw4 : w.cl.facts.length ≤ 100000000) (hsm : ∀ x ∈ p, x.sm) (hp1 : p.length ≤ pcap) (hp2 : pad = none → pcap = 0) (hp3 : p.length ≤ 100000) : Tri Tryz.prog 39 #[Wk.val w, .slice pad (List.length p) pcap, .int .i64 bu] [] [aS_ (Wk.pad w) (List.flatMap Pc.cells (Wk.ps w)), aS_ (Cl.aad (Wk.cl w)) (List.flatMap bg_ (Cl.atoms (Wk.cl w))), aS_ (Cl.fad (Wk.cl w)) (List.flatMap Fc.cells (Cl.facts (Wk.cl w))), aS_ pad (List.flatMap Pc.cells p), gB_] (fun y : {y : Wk × List Fc × Option Addr × Nat × Int // gv_ w p bu y.1 y.2.1 y.2.2.2.2 ∧ (y.2.1.length ≤ y.2.2.2.1 ∧ y.2.2.2.1 ≤ maxLen ∧ (y.2.2.1 = none → y.2.2.2.1 = 0))} => .tuple #[y.1.1.val, .slice y.1.2.2.1 y.1.2.1.length y.1.2.2.2.1, .int .i64 y.1.2.2.2.2]) (fun _ => []) (fun y => y.1.1.row ++ [aS_ y.1.2.2.1 (y.1.2.1.flatMap Fc.cells)]) := by
 refine M_ Tryz.func39 rfl rfl Tryz.ntmps39 rfl fun v0 => ?_
 refine f_ (c_ (aF_ rfl rfl fun b1 => ?_))
 refine al_ cN_ rfl fun b2 => ?_
 refine a_ (g_ rfl) rfl (a_ (g_ rfl) rfl (d_ (b_ rfl (f_ (f_ (c_ (a_ (h_ rfl) rfl (Q_ (lM_ p pad pcap (by omega) hsm) rfl W_ (fun v _ h => by exact ⟨h.2.2.2.1, h.2.2.2.2.1, trivial⟩) rfl fun _ => ?_))))))))
 refine a_ (g_ rfl) rfl (d_ (b_ rfl (f_ (c_ (a_ (h_ rfl) rfl (x_ (bR_ rfl rfl) rfl fun r1 hr1 => ?_))))))
 refine d_ (b_ rfl ?_)
 cases r1
 ·
  replace hr1 := bc_ hr1
  have hchk := hr1
  refine p_ rfl (A_ (b_ rfl (f_ (f_ (c_ (a_ (h_ rfl) rfl (ax_ (kA_ bu) rfl W_ (fun _ _ _ => by exact trivial) rfl fun r2 hr2 => ?_)))))))
  refine a_ (bG_ rfl) rfl (d_ (b_ rfl ?_))
  cases r2
  ·
   replace hr2 := of_decide_eq_false hr2
   refine n_ rfl (f_ (c_ (a_ (ag_ eN_ rfl rfl) rfl (Z_ 0 am_ rfl rfl rfl rfl rfl rfl (a_ (g_ rfl) rfl (a_ (g_ rfl) rfl (d_ (b_ rfl (B_ ?_)))))))))
   exact dY_ ⟨((Wk.mk [] none 0 (Cl.mk [] none 0 [] none 0)), ([] : List Fc), none, 0, 1), by unfold gv_; rw [if_neg (fun q => q hchk), if_pos (by assumption)]; exact ⟨rfl, rfl, rfl⟩, ⟨Nat.le_refl _, by simp, fun _ => rfl⟩⟩ (fun aa v h1 h2 => dK_ (us := Wk.cells (Wk.mk [] none 0 (Cl.mk [] none 0 [] none 0))) 0 gJ_ bm_ am_ rfl rfl rfl rfl rfl aa v h1 h2) W_ (fun v _ h => by exact ⟨.inl rfl, .inl rfl, .inl rfl, .inl rfl, trivial⟩)
  ·
   replace hr2 := of_decide_eq_true hr2
   have hbu := hr2
   refine p_ rfl (A_ (b_ rfl (f_ (f_ (c_ (a_ (j_ aR_ rfl rfl rfl bU_) rfl (a_ (q_ 1 dG_ rfl rfl rfl) rfl (a_ (ah_ G_ rfl) rfl (a_ (h_ rfl) rfl ?_)))))))))
   refine a_ (ah_ G_ rfl) rfl (a_ (V_ rfl rfl rfl (aq_ (by omega) (by omega))) rfl (x_ (bK_ rfl rfl) rfl fun r3 hr3 => ?_))
   refine d_ (b_ rfl ?_)
   cases r3
   ·
    replace hr3 := of_decide_eq_false hr3
    refine p_ rfl (A_ (b_ rfl (f_ (c_ (a_ (j_ aR_ rfl rfl rfl bU_) rfl (a_ (q_ 1 dG_ rfl rfl rfl) rfl (a_ (h_ rfl) rfl (aK_ hp_ bU_ cx_ rfl rfl rfl rfl rfl rfl fun b3 => ?_))))))))
    refine dT_ (List.flatMap PL.cells [(PL.mk (Wk.ps w) (Wk.pad w) (Wk.pcap w)), (PL.mk p pad pcap)]) i_ rfl ?_
    refine Q_ (rc_ [(PL.mk (Wk.ps w) (Wk.pad w) (Wk.pcap w)), (PL.mk p pad pcap)] (some ⟨b3, 0, none⟩) 2 (fun y hy => by simp only [List.mem_cons, List.not_mem_nil, or_false] at hy; rcases hy with rfl | rfl; exact ⟨hw1, hw2, by dsimp only; omega⟩; exact ⟨hp1, hp2, by dsimp only; omega⟩) (by simp)) rfl W_ (fun v _ h => by refine ⟨h.1, fun y hy => ?_, trivial⟩; simp only [List.mem_cons, List.not_mem_nil, or_false] at hy; rcases hy with rfl | rfl; exact h.2.1; exact h.2.2.2.2.1) rfl fun ⟨⟨ccad, cccap⟩, hcc1, hcc2, hcc3⟩ => ?_
    dsimp only
    dsimp only at hcc1 hcc2 hcc3
    have eC : (eT_ [(PL.mk (Wk.ps w) (Wk.pad w) (Wk.pcap w)), (PL.mk p pad pcap)]) = w.ps ++ p := by simp [eT_]
    have hCl : List.length (eT_ [(PL.mk (Wk.ps w) (Wk.pad w) (Wk.pcap w)), (PL.mk p pad pcap)]) = w.ps.length + p.length := by rw [eC, List.length_append]
    refine a_ (h_ rfl) rfl (Q_ (hO_ (eT_ [(PL.mk (Wk.ps w) (Wk.pad w) (Wk.pcap w)), (PL.mk p pad pcap)]) ccad cccap bu (fun y hy => by rw [eC] at hy; rcases List.mem_append.1 hy with h | h; exact hsw y h; exact hsm y h) (by omega) (by omega)) rfl W_ (fun v _ h => by exact ⟨h.1, h.2.2.2.2.2.2.1, trivial⟩) rfl fun ⟨⟨x1, e1⟩, hS1⟩ => ?_)
    dsimp only
    dsimp only at hS1
    have hlx1 := hS1.len
    refine a_ (h_ rfl) rfl (a_ (ae_ rfl rfl) rfl (a_ (ae_ rfl rfl) rfl (Z_ 0 am_ rfl rfl rfl rfl rfl rfl (a_ (g_ rfl) rfl (d_ (b_ rfl (f_ (f_ (c_ ?_)))))))))
    refine a_ (h_ rfl) rfl (x_ (bR_ rfl rfl) rfl fun r4 hr4 => ?_)
    refine d_ (b_ rfl ?_)
    cases r4
    ·
     replace hr4 := bc_ hr4
     have he1 : e1 = 0 := hr4
     refine p_ rfl (A_ (b_ rfl (f_ (c_ (a_ (j_ aR_ rfl rfl rfl ay_) rfl (a_ (L_ 1 cm_ ay_ rfl rfl rfl) rfl (Q_ (kk_ (Wk.cl w) (by omega)) rfl W_ (fun v _ h => by exact ⟨h.2.2.2.2.2.2.2.1, trivial⟩) rfl fun ⟨⟨mb, es, ce, q⟩, hE, hq⟩ => ?_)))))))
     dsimp only
     dsimp only at hE hq
     refine a_ (g_ rfl) rfl (d_ (b_ rfl (f_ ?_)))
     refine aC_ ((b1, .cells #[.slice (Wk.pad w) (List.length (Wk.ps w)) (Wk.pcap w), .slice (Cl.aad (Wk.cl w)) (List.length (Cl.atoms (Wk.cl w))) (Cl.acap (Wk.cl w)), .slice (Cl.fad (Wk.cl w)) (List.length (Cl.facts (Wk.cl w))) (Cl.fcap (Wk.cl w))] 50 (0, 0)) :: []) (by kernel_rfl) ?_
     refine ad_ 6 [1, 2, 4, 5] (by kernel_rfl) (fun _ a b => ⟨a.tail.tail, b⟩) (k_ rfl (j_ aR_ rfl rfl rfl ay_) rfl (k_ rfl (j_ bf_ rfl rfl rfl cu_) rfl (k_ rfl (h_ rfl) rfl (k_ rfl (cp_ rfl rfl) rfl (ac_ ?_)))))
     refine eZ_ 0 3 rfl rfl (by kernel_rfl) ?_ ?_
     ·
      refine a_ (L_ 1 bm_ am_ rfl rfl rfl) rfl (d_ (r_ rfl (C_ (fun _ a b => ⟨a.tail.tail, b⟩) (O_ 3 rfl (by kernel_rfl) (a_ (q_ 1 bX_ rfl rfl rfl) rfl (d_ (r_ rfl (C_ (fun _ a b => ⟨a.tail.tail, b⟩) (O_ 6 rfl (by kernel_rfl) ?_)))))))))
      refine Q_ (gR_ (Cl.facts (Wk.cl x1)) (Cl.fad (Wk.cl x1)) (Cl.fcap (Wk.cl x1)) mb es ce q hE (by omega)) rfl i_ (fun v _ h => by exact ⟨h.2.2.1, trivial⟩) rfl fun ⟨⟨nad, ncap⟩, hn1, hn2, hn3⟩ => ?_
      dsimp only
      dsimp only at hn1 hn2 hn3
      refine d_ (r_ rfl (C_ (fun _ a b => ⟨a.tail.tail, b.2⟩) (O_ 7 rfl (by kernel_rfl) (Z_ 1 am_ rfl rfl rfl rfl rfl rfl (d_ (r_ rfl (C_ (fun _ a b => ⟨a.tail.tail, b.2⟩) (ad_ 0 [8, 9] (by kernel_rfl) (fun _ a b => ⟨a.tail.tail, b.2⟩) (k_ rfl (g_ rfl) rfl ?_)))))))))
      refine k_ rfl (g_ rfl) rfl (ac_ (ab_ (by kernel_rfl) (b_ rfl (B_ ?_))))
      exact dY_ ⟨(x1, (bF_ (Cl.facts (Wk.cl x1)) q), nad, ncap, 0), by unfold gv_; rw [if_neg (fun q => q hchk), if_neg (fun q => q hbu), if_neg (by omega)]; rw [if_pos rfl]; exact ⟨eC ▸ he1 ▸ hS1, ef_ hq⟩, ⟨hn1, hn2, hn3⟩⟩ (fun aa v h1 h2 => dK_ (us := Wk.cells x1) 1 gJ_ bm_ am_ rfl rfl rfl rfl rfl aa v h1 h2) W_ (fun v _ h => by exact ⟨h.2.1, h.2.2.1, h.2.2.2.1, h.1, trivial⟩)
     ·
      refine a_ (q_ 1 bX_ rfl rfl rfl) rfl (d_ (r_ rfl (C_ (fun _ a b => ⟨a.tail.tail, b⟩) ?_)))
      refine eZ_ 0 6 rfl rfl (by kernel_rfl) ?_ ?_
      ·
       refine a_ (L_ 1 bm_ am_ rfl rfl rfl) rfl (d_ (r_ rfl (C_ (fun _ a b => ⟨a.tail.tail, b⟩) (O_ 6 rfl (by kernel_rfl) (Q_ (gR_ (Cl.facts (Wk.cl x1)) (Cl.fad (Wk.cl x1)) (Cl.fcap (Wk.cl x1)) mb es ce q hE (by omega)) rfl i_ (fun v _ h => by exact ⟨h.2.2.1, trivial⟩) rfl fun ⟨⟨nad, ncap⟩, hn1, hn2, hn3⟩ => ?_)))))
       dsimp only
       dsimp only at hn1 hn2 hn3
       refine d_ (r_ rfl (C_ (fun _ a b => ⟨a.tail.tail, b.2⟩) (O_ 7 rfl (by kernel_rfl) (Z_ 1 am_ rfl rfl rfl rfl rfl rfl (d_ (r_ rfl (C_ (fun _ a b => ⟨a.tail.tail, b.2⟩) (ad_ 0 [8, 9] (by kernel_rfl) (fun _ a b => ⟨a.tail.tail, b.2⟩) (k_ rfl (g_ rfl) rfl ?_)))))))))
       refine k_ rfl (g_ rfl) rfl (ac_ (ab_ (by kernel_rfl) (b_ rfl (B_ ?_))))
       exact dY_ ⟨(x1, (bF_ (Cl.facts (Wk.cl x1)) q), nad, ncap, 0), by unfold gv_; rw [if_neg (fun q => q hchk), if_neg (fun q => q hbu), if_neg (by omega)]; rw [if_pos rfl]; exact ⟨eC ▸ he1 ▸ hS1, ef_ hq⟩, ⟨hn1, hn2, hn3⟩⟩ (fun aa v h1 h2 => dK_ (us := Wk.cells x1) 1 gJ_ bm_ am_ rfl rfl rfl rfl rfl aa v h1 h2) W_ (fun v _ h => by exact ⟨h.2.1, h.2.2.1, h.2.2.2.1, h.1, trivial⟩)
      ·
       refine Q_ (gR_ (Cl.facts (Wk.cl x1)) (Cl.fad (Wk.cl x1)) (Cl.fcap (Wk.cl x1)) mb es ce q hE (by omega)) rfl i_ (fun v _ h => by exact ⟨h.2.2.1, trivial⟩) rfl fun ⟨⟨nad, ncap⟩, hn1, hn2, hn3⟩ => ?_
       dsimp only
       dsimp only at hn1 hn2 hn3
       refine d_ (r_ rfl (C_ (fun _ a b => ⟨a.tail.tail, b.2⟩) (O_ 0 rfl (by kernel_rfl) (a_ (L_ 1 bm_ am_ rfl rfl rfl) rfl (d_ (r_ rfl (C_ (fun _ a b => ⟨a.tail.tail, b.2⟩) (O_ 7 rfl (by kernel_rfl) (Z_ 1 am_ rfl rfl rfl rfl rfl rfl ?_)))))))))
       refine d_ (r_ rfl (C_ (fun _ a b => ⟨a.tail.tail, b.2⟩) (ad_ 0 [8, 9] (by kernel_rfl) (fun _ a b => ⟨a.tail.tail, b.2⟩) (k_ rfl (g_ rfl) rfl (k_ rfl (g_ rfl) rfl (ac_ (ab_ (by kernel_rfl) (b_ rfl (B_ ?_)))))))))
       exact dY_ ⟨(x1, (bF_ (Cl.facts (Wk.cl x1)) q), nad, ncap, 0), by unfold gv_; rw [if_neg (fun q => q hchk), if_neg (fun q => q hbu), if_neg (by omega)]; rw [if_pos rfl]; exact ⟨eC ▸ he1 ▸ hS1, ef_ hq⟩, ⟨hn1, hn2, hn3⟩⟩ (fun aa v h1 h2 => dK_ (us := Wk.cells x1) 1 gJ_ bm_ am_ rfl rfl rfl rfl rfl aa v h1 h2) W_ (fun v _ h => by exact ⟨h.2.1, h.2.2.1, h.2.2.2.1, h.1, trivial⟩)
    ·
     replace hr4 := bb_ hr4
     refine n_ rfl (f_ (c_ (a_ (ag_ eN_ rfl rfl) rfl (a_ (h_ rfl) rfl (Z_ 0 am_ rfl rfl rfl rfl rfl rfl (a_ (g_ rfl) rfl (a_ (g_ rfl) rfl (d_ (b_ rfl ?_)))))))))
     refine B_ ?_
     exact dY_ ⟨((Wk.mk [] none 0 (Cl.mk [] none 0 [] none 0)), ([] : List Fc), none, 0, e1), by unfold gv_; rw [if_neg (fun q => q hchk), if_neg (fun q => q hbu), if_neg (by omega)]; rw [if_neg (by assumption)]; exact ⟨(mj_ (eC ▸ hS1) (by assumption)), rfl⟩, ⟨Nat.le_refl _, by simp, fun _ => rfl⟩⟩ (fun aa v h1 h2 => dK_ (us := Wk.cells (Wk.mk [] none 0 (Cl.mk [] none 0 [] none 0))) 0 gJ_ bm_ am_ rfl rfl rfl rfl rfl aa v h1 h2) W_ (fun v _ h => by exact ⟨.inl rfl, .inl rfl, .inl rfl, .inl rfl, trivial⟩)
   ·
    replace hr3 := of_decide_eq_true hr3
    refine n_ rfl (f_ (c_ (a_ (ag_ eN_ rfl rfl) rfl (Z_ 0 am_ rfl rfl rfl rfl rfl rfl (a_ (g_ rfl) rfl (a_ (g_ rfl) rfl (d_ (b_ rfl (B_ ?_)))))))))
    exact dY_ ⟨((Wk.mk [] none 0 (Cl.mk [] none 0 [] none 0)), ([] : List Fc), none, 0, 2), by unfold gv_; rw [if_neg (fun q => q hchk), if_neg (fun q => q hbu), if_pos (by omega)]; exact ⟨rfl, rfl, rfl⟩, ⟨Nat.le_refl _, by simp, fun _ => rfl⟩⟩ (fun aa v h1 h2 => dK_ (us := Wk.cells (Wk.mk [] none 0 (Cl.mk [] none 0 [] none 0))) 0 gJ_ bm_ am_ rfl rfl rfl rfl rfl aa v h1 h2) W_ (fun v _ h => by exact ⟨.inl rfl, .inl rfl, .inl rfl, .inl rfl, trivial⟩)
 ·
  replace hr1 := bb_ hr1
  refine n_ rfl (f_ (c_ (a_ (ag_ eN_ rfl rfl) rfl (a_ (h_ rfl) rfl (Z_ 0 am_ rfl rfl rfl rfl rfl rfl (a_ (g_ rfl) rfl (a_ (g_ rfl) rfl (d_ (b_ rfl ?_)))))))))
  refine B_ ?_
  exact dY_ ⟨((Wk.mk [] none 0 (Cl.mk [] none 0 [] none 0)), ([] : List Fc), none, 0, (bD_ p)), by unfold gv_; rw [if_pos (by assumption)]; exact ⟨rfl, rfl, rfl⟩, ⟨Nat.le_refl _, by simp, fun _ => rfl⟩⟩ (fun aa v h1 h2 => dK_ (us := Wk.cells (Wk.mk [] none 0 (Cl.mk [] none 0 [] none 0))) 0 gJ_ bm_ am_ rfl rfl rfl rfl rfl aa v h1 h2) W_ (fun v _ h => by exact ⟨.inl rfl, .inl rfl, .inl rfl, .inl rfl, trivial⟩)
end Go.Proofs.YtpdbbglpbngeiaaGreatDoor
namespace Go.Proofs.YtpdbbglpbngeiaaGreatDoor
open Go Go.Sx Go.Proofs
attribute [local irreducible] Code.wp wpList wpAnyH
open Go.Vs
set_option maxHeartbeats 1000000 in
theorem jx_ (w : Wk) (wh : List Int) (had : Option Addr) (hcap : Nat) (bu : Int) (hsw : ∀ x ∈ w.ps, x.sm) (hw1 : w.ps.length ≤ w.pcap) (hw2 : w.pad = none → w.pcap = 0) (hw3 : w.ps.length ≤ 16384) (hw4 : w.cl.facts.length ≤ 100000000) (hwl : wh.length ≤ 100000000) : Tri Tryz.prog 41 #[Wk.val w, .slice had (List.length wh) hcap, .int .i64 bu] [] [aS_ (Wk.pad w) (List.flatMap Pc.cells (Wk.ps w)), aS_ (Cl.aad (Wk.cl w)) (List.flatMap bg_ (Cl.atoms (Wk.cl w))), aS_ (Cl.fad (Wk.cl w)) (List.flatMap Fc.cells (Cl.facts (Wk.cl w))), aS_ had (List.flatMap iz_ wh), gB_] (fun y : {y : Wk × List Fc × Option Addr × Nat × Int // fW_ w wh bu y.1 y.2.1 y.2.2.2.2 ∧ (y.2.1.length ≤ y.2.2.2.1 ∧ y.2.2.2.1 ≤ maxLen ∧ (y.2.2.1 = none → y.2.2.2.1 = 0))} => .tuple #[y.1.1.val, .slice y.1.2.2.1 y.1.2.1.length y.1.2.2.2.1, .int .i64 y.1.2.2.2.2]) (fun _ => []) (fun y => y.1.1.row ++ [aS_ y.1.2.2.1 (y.1.2.1.flatMap Fc.cells)]) := by
 refine M_ Tryz.func41 rfl rfl Tryz.ntmps41 rfl fun v0 => ?_
 refine f_ (c_ (aF_ rfl rfl fun b1 => ?_))
 refine al_ cN_ rfl fun b2 => ?_
 refine a_ (g_ rfl) rfl (a_ (g_ rfl) rfl (d_ (b_ rfl (f_ (c_ (cL_ rfl fun b3 => ?_))))))
 refine a_ (g_ rfl) rfl (d_ (b_ rfl (f_ (f_ (c_ (a_ (h_ rfl) rfl (a_ (ah_ ct_ rfl) rfl (a_ (h_ rfl) rfl (d_ ?_)))))))))
 refine b_ rfl (S_ ?_)
 refine aV_ (ι := {y : Nat × Array MapEntry × Nat × List Int // y.1 ≤ List.length wh ∧ SetE (fun n : Int => Value.int .i64 n) y.2.1 y.2.2.2 ∧ (∀ f, f ∈ y.2.2.2 ↔ f ∈ List.take y.1 wh) ∧ (∀ x ∈ List.take y.1 wh, 0 ≤ x ∧ x < List.length (Wk.ps w)) ∧ (List.take y.1 wh).Pairwise (fun x y : Int => x < y)}) (fun y => [(2, .int .i64 bu), (3, zp_ b1 0), (6, zp_ b2 0), (7, .slice none 0 0), (9, .map (some b3)), (1, .slice had (List.length wh) hcap), (17, .slice had (List.length wh) hcap), (18, .int .i64 (List.length wh : Int)), (19, .int .i64 (y.1.1 : Int))]) (fun y => ((b3, .map y.1.2.1 y.1.2.2.1) :: ((b2, .cells #[.slice none 0 0, .slice none 0 0, .slice none 0 0] 50 (0, 0)) :: ((b1, .cells #[.slice (Wk.pad w) (List.length (Wk.ps w)) (Wk.pcap w), .slice (Cl.aad (Wk.cl w)) (List.length (Cl.atoms (Wk.cl w))) (Cl.acap (Wk.cl w)), .slice (Cl.fad (Wk.cl w)) (List.length (Cl.facts (Wk.cl w))) (Cl.fcap (Wk.cl w))] 50 (0, 0)) :: [])))) (fun y => [aS_ (Wk.pad w) (List.flatMap Pc.cells (Wk.ps w)), aS_ (Cl.aad (Wk.cl w)) (List.flatMap bg_ (Cl.atoms (Wk.cl w))), aS_ (Cl.fad (Wk.cl w)) (List.flatMap Fc.cells (Cl.facts (Wk.cl w))), aS_ had (List.flatMap iz_ wh), gB_]) (fun y => List.length wh - y.1.1) ⟨((0 : Nat), #[], 0, ([] : List Int)), by simp, SetE.nil, by simp, by simp, List.Pairwise.nil⟩ ⟨rfl, rfl, rfl, rfl, rfl, rfl, rfl, rfl, rfl, trivial⟩ (l_ i_ (l_ i_ i_)) (fun _ _ h => h) ?_
 rintro ⟨⟨i, es, ce, q⟩, hi, hE, hq, hb, hpw⟩
 dsimp only at hi hE hq hb hpw ⊢
 refine f_ (c_ (x_ (az_ rfl rfl) rfl fun r1 hr1 => ?_))
 refine d_ (b_ rfl (f_ ?_))
 cases r1
 ·
  replace hr1 := of_decide_eq_false hr1
  rw [List.take_of_length_le (by omega)] at hq hb hpw
  have hokx : pR_ (Wk.ps w).length wh := ⟨hb, hpw⟩
  refine p_ rfl (aD_ rfl (b_ rfl (f_ (f_ (c_ (a_ (h_ rfl) rfl (ax_ (kA_ bu) rfl W_ (fun _ _ _ => by exact trivial) rfl fun r2 hr2 => ?_)))))))
  refine a_ (bG_ rfl) rfl (d_ (b_ rfl ?_))
  cases r2
  ·
   replace hr2 := of_decide_eq_false hr2
   refine n_ rfl (f_ (c_ (a_ (ag_ eN_ rfl rfl) rfl (Z_ 1 am_ rfl rfl rfl rfl rfl rfl (a_ (g_ rfl) rfl (a_ (g_ rfl) rfl (d_ (b_ rfl (B_ ?_)))))))))
   exact dY_ ⟨((Wk.mk [] none 0 (Cl.mk [] none 0 [] none 0)), ([] : List Fc), none, 0, 1), by unfold fW_; rw [if_pos (fun z => absurd z.2 (by assumption))]; exact ⟨rfl, rfl, rfl⟩, ⟨Nat.le_refl _, by simp, fun _ => rfl⟩⟩ (fun aa v h1 h2 => dK_ (us := Wk.cells (Wk.mk [] none 0 (Cl.mk [] none 0 [] none 0))) 1 gI_ bm_ am_ rfl rfl rfl rfl rfl aa v h1 h2) W_ (fun v _ h => by exact ⟨.inl rfl, .inl rfl, .inl rfl, .inl rfl, trivial⟩)
  ·
   replace hr2 := of_decide_eq_true hr2
   have hbu := hr2
   refine p_ rfl (A_ (b_ rfl (f_ (c_ (a_ (g_ rfl) rfl (d_ (b_ rfl (f_ (f_ ?_)))))))))
   refine c_ (a_ (j_ aR_ rfl rfl rfl bU_) rfl (a_ (q_ 2 dG_ rfl rfl rfl) rfl (a_ (ah_ G_ rfl) rfl (a_ (h_ rfl) rfl (d_ (b_ rfl (S_ ?_)))))))
   refine aV_ (ι := {y : Nat × Value × Hp // y.1 ≤ List.length (Wk.ps w) ∧ bk_ 47 10 y.2.1 (List.length (do_ wh 0 (List.take y.1 (Wk.ps w)))) (List.flatMap Pc.cells (do_ wh 0 (List.take y.1 (Wk.ps w)))) y.2.2}) (fun y => [(2, .int .i64 bu), (3, zp_ b1 0), (6, zp_ b2 0), (7, .slice none 0 0), (9, .map (some b3)), (12, y.1.2.1), (55, .slice (Wk.pad w) (List.length (Wk.ps w)) (Wk.pcap w)), (56, .int .i64 (List.length (Wk.ps w) : Int)), (57, .int .i64 (y.1.1 : Int))]) (fun y => ((b3, .map es ce) :: ((b2, .cells #[.slice none 0 0, .slice none 0 0, .slice none 0 0] 50 (0, 0)) :: ((b1, .cells #[.slice (Wk.pad w) (List.length (Wk.ps w)) (Wk.pcap w), .slice (Cl.aad (Wk.cl w)) (List.length (Cl.atoms (Wk.cl w))) (Cl.acap (Wk.cl w)), .slice (Cl.fad (Wk.cl w)) (List.length (Cl.facts (Wk.cl w))) (Cl.fcap (Wk.cl w))] 50 (0, 0)) :: y.1.2.2)))) (fun y => [aS_ (Wk.pad w) (List.flatMap Pc.cells (Wk.ps w)), aS_ (Cl.aad (Wk.cl w)) (List.flatMap bg_ (Cl.atoms (Wk.cl w))), aS_ (Cl.fad (Wk.cl w)) (List.flatMap Fc.cells (Cl.facts (Wk.cl w))), aS_ had (List.flatMap iz_ wh), gB_]) (fun y => List.length (Wk.ps w) - y.1.1) ⟨((0 : Nat), (.slice none 0 0), []), by simp, (bk_.nil _ _)⟩ ⟨rfl, rfl, rfl, rfl, rfl, rfl, rfl, rfl, rfl, trivial⟩ (l_ i_ (l_ i_ i_)) (fun _ _ h => h) ?_
   rintro ⟨⟨k, sv_Rpc, H_Rpc⟩, hk, hr_Rpc⟩
   dsimp only at hk hr_Rpc ⊢
   have hkl := fd_ wh 0 (List.take k (Wk.ps w))
   rw [List.length_take] at hkl
   refine f_ (c_ (x_ (az_ rfl rfl) rfl fun r3 hr3 => ?_))
   refine d_ (b_ rfl (f_ ?_))
   cases r3
   ·
    replace hr3 := of_decide_eq_false hr3
    rw [List.take_of_length_le (by omega)] at hr_Rpc
    have hkl2 := fd_ wh 0 (Wk.ps w)
    refine p_ rfl (aD_ rfl (b_ rfl (f_ (c_ (a_ (h_ rfl) rfl (a_ (h_ rfl) rfl (dS_ hr_Rpc (e_ (e_ ai_)) fun rad rcap hrad hcrad hmrad hzrad => ?_)))))))
    subst hrad
    refine Q_ (hO_ (do_ wh 0 (Wk.ps w)) rad rcap bu (fun y hy => hsw y (fc_ _ _ _ y hy)) (by omega) (by omega)) rfl W_ (fun v _ h => by exact ⟨h.1, h.2.2.2.2.2.1, trivial⟩) rfl fun ⟨⟨x1w, e1⟩, hS1⟩ => ?_
    dsimp only
    dsimp only at hS1
    have hlx1w := hS1.len
    refine a_ (h_ rfl) rfl (a_ (ae_ rfl rfl) rfl (a_ (ae_ rfl rfl) rfl (Z_ 1 am_ rfl rfl rfl rfl rfl rfl (a_ (g_ rfl) rfl (d_ (b_ rfl (f_ (f_ (c_ ?_)))))))))
    refine a_ (h_ rfl) rfl (x_ (bR_ rfl rfl) rfl fun r4 hr4 => ?_)
    refine d_ (b_ rfl ?_)
    cases r4
    ·
     replace hr4 := bc_ hr4
     have he1 : e1 = 0 := hr4
     refine p_ rfl (A_ (b_ rfl (f_ (c_ (a_ (j_ aR_ rfl rfl rfl ay_) rfl (a_ (L_ 1 cm_ ay_ rfl rfl rfl) rfl (Q_ (kk_ (Wk.cl x1w) (by omega)) rfl W_ (fun v _ h => by exact ⟨h.2.2.1, trivial⟩) rfl fun ⟨⟨mb9, es9, ce9, q9⟩, hE9, hq9⟩ => ?_)))))))
     dsimp only
     dsimp only at hE9 hq9
     refine a_ (g_ rfl) rfl (d_ (b_ rfl (f_ ?_)))
     refine aC_ ((b3, .map es ce) :: ((b1, .cells #[.slice (Wk.pad w) (List.length (Wk.ps w)) (Wk.pcap w), .slice (Cl.aad (Wk.cl w)) (List.length (Cl.atoms (Wk.cl w))) (Cl.acap (Wk.cl w)), .slice (Cl.fad (Wk.cl w)) (List.length (Cl.facts (Wk.cl w))) (Cl.fcap (Wk.cl w))] 50 (0, 0)) :: [])) (by kernel_rfl) ?_
     refine ad_ 5 [1, 2, 3, 4, 5] (by kernel_rfl) (fun _ a b => ⟨Vw.sat.sub (a.perm (l_ (e_ i_) (e_ (e_ i_)))), b⟩) (k_ rfl (j_ aR_ rfl rfl rfl ay_) rfl (k_ rfl (j_ bf_ rfl rfl rfl cu_) rfl (k_ rfl (q_ 1 bX_ rfl rfl rfl) rfl (k_ rfl (h_ rfl) rfl (k_ rfl (cp_ rfl rfl) rfl (ac_ ?_))))))
     refine eZ_ 0 6 rfl rfl (by kernel_rfl) ?_ ?_
     ·
      refine a_ (L_ 2 bm_ am_ rfl rfl rfl) rfl (d_ (r_ rfl (C_ (fun _ a b => ⟨Vw.sat.sub (a.perm (l_ (e_ i_) (e_ (e_ i_)))), b⟩) (O_ 6 rfl (by kernel_rfl) (Q_ (gR_ (Cl.facts (Wk.cl w)) (Cl.fad (Wk.cl w)) (Cl.fcap (Wk.cl w)) mb9 es9 ce9 q9 hE9 (by omega)) rfl i_ (fun v _ h => by exact ⟨h.2.2.2.2.2.2.1, trivial⟩) rfl fun ⟨⟨nad, ncap⟩, hn1, hn2, hn3⟩ => ?_)))))
      dsimp only
      dsimp only at hn1 hn2 hn3
      refine d_ (r_ rfl (C_ (fun _ a b => ⟨Vw.sat.sub (a.perm (l_ (e_ i_) (e_ (e_ i_)))), b.2⟩) (O_ 7 rfl (by kernel_rfl) (Z_ 2 am_ rfl rfl rfl rfl rfl rfl (d_ (r_ rfl (C_ (fun _ a b => ⟨Vw.sat.sub (a.perm (l_ (e_ i_) (e_ (e_ i_)))), b.2⟩) (ad_ 0 [8, 9] (by kernel_rfl) (fun _ a b => ⟨Vw.sat.sub (a.perm (l_ (e_ i_) (e_ (e_ i_)))), b.2⟩) (k_ rfl (g_ rfl) rfl ?_)))))))))
      refine k_ rfl (g_ rfl) rfl (ac_ (ab_ (by kernel_rfl) (b_ rfl (B_ ?_))))
      exact dY_ ⟨(x1w, (bF_ (Cl.facts (Wk.cl w)) q9), nad, ncap, 0), by unfold fW_; rw [if_neg (fun z => z ⟨hokx, hbu⟩)]; rw [if_pos rfl]; exact ⟨he1 ▸ hS1, ef_ hq9⟩, ⟨hn1, hn2, hn3⟩⟩ (fun aa v h1 h2 => dK_ (us := Wk.cells x1w) 2 gI_ bm_ am_ rfl rfl rfl rfl rfl aa v h1 h2) W_ (fun v _ h => by exact ⟨h.2.1, h.2.2.1, h.2.2.2.1, h.1, trivial⟩)
     ·
      refine Q_ (gR_ (Cl.facts (Wk.cl w)) (Cl.fad (Wk.cl w)) (Cl.fcap (Wk.cl w)) mb9 es9 ce9 q9 hE9 (by omega)) rfl i_ (fun v _ h => by exact ⟨h.2.2.2.2.2.2.1, trivial⟩) rfl fun ⟨⟨nad, ncap⟩, hn1, hn2, hn3⟩ => ?_
      dsimp only
      dsimp only at hn1 hn2 hn3
      refine d_ (r_ rfl (C_ (fun _ a b => ⟨Vw.sat.sub (a.perm (l_ (e_ i_) (e_ (e_ i_)))), b.2⟩) (O_ 0 rfl (by kernel_rfl) (a_ (L_ 2 bm_ am_ rfl rfl rfl) rfl (d_ (r_ rfl (C_ (fun _ a b => ⟨Vw.sat.sub (a.perm (l_ (e_ i_) (e_ (e_ i_)))), b.2⟩) (O_ 7 rfl (by kernel_rfl) (Z_ 2 am_ rfl rfl rfl rfl rfl rfl ?_)))))))))
      refine d_ (r_ rfl (C_ (fun _ a b => ⟨Vw.sat.sub (a.perm (l_ (e_ i_) (e_ (e_ i_)))), b.2⟩) (ad_ 0 [8, 9] (by kernel_rfl) (fun _ a b => ⟨Vw.sat.sub (a.perm (l_ (e_ i_) (e_ (e_ i_)))), b.2⟩) (k_ rfl (g_ rfl) rfl (k_ rfl (g_ rfl) rfl (ac_ (ab_ (by kernel_rfl) (b_ rfl (B_ ?_)))))))))
      exact dY_ ⟨(x1w, (bF_ (Cl.facts (Wk.cl w)) q9), nad, ncap, 0), by unfold fW_; rw [if_neg (fun z => z ⟨hokx, hbu⟩)]; rw [if_pos rfl]; exact ⟨he1 ▸ hS1, ef_ hq9⟩, ⟨hn1, hn2, hn3⟩⟩ (fun aa v h1 h2 => dK_ (us := Wk.cells x1w) 2 gI_ bm_ am_ rfl rfl rfl rfl rfl aa v h1 h2) W_ (fun v _ h => by exact ⟨h.2.1, h.2.2.1, h.2.2.2.1, h.1, trivial⟩)
    ·
     replace hr4 := bb_ hr4
     refine n_ rfl (f_ (c_ (a_ (ag_ eN_ rfl rfl) rfl (a_ (h_ rfl) rfl (Z_ 1 am_ rfl rfl rfl rfl rfl rfl (a_ (g_ rfl) rfl (a_ (g_ rfl) rfl (d_ (b_ rfl ?_)))))))))
     refine B_ ?_
     exact dY_ ⟨((Wk.mk [] none 0 (Cl.mk [] none 0 [] none 0)), ([] : List Fc), none, 0, e1), by unfold fW_; rw [if_neg (fun z => z ⟨hokx, hbu⟩)]; rw [if_neg (by assumption)]; exact ⟨mj_ hS1 (by assumption), rfl⟩, ⟨Nat.le_refl _, by simp, fun _ => rfl⟩⟩ (fun aa v h1 h2 => dK_ (us := Wk.cells (Wk.mk [] none 0 (Cl.mk [] none 0 [] none 0))) 1 gI_ bm_ am_ rfl rfl rfl rfl rfl aa v h1 h2) W_ (fun v _ h => by exact ⟨.inl rfl, .inl rfl, .inl rfl, .inl rfl, trivial⟩)
   ·
    replace hr3 := of_decide_eq_true hr3
    have hlx2 : k < List.length (Wk.ps w) := by omega
    obtain ⟨x2, hx2⟩ : ∃ e0, (Wk.ps w)[k]? = some e0 := ⟨_, List.getElem?_eq_getElem hlx2⟩
    have hmx2 : x2 ∈ (Wk.ps w) := List.mem_of_getElem? hx2
    refine n_ rfl (A_ (b_ rfl (f_ (S_ (f_ (c_ (a_ (h_ rfl) rfl (a_ (ak_ G_ U_ rfl rfl (fun v _ h => aL_ (n := 10) Pc.cells_len (by decide) (by exact h.1) hx2) (by omega) (by first | omega | (simp; done))) rfl (a_ (aE_ (ad := (Wk.pad w)) (us := Pc.cells x2) bh_ U_ rfl (fun v _ h => by exact h.1) (Pc.cells_len _) (an_ Pc.cells_len hx2)) rfl ?_)))))))))
    refine al_ ap_ rfl fun b4 => ?_
    refine a_ (g_ rfl) rfl (Z_ 0 U_ rfl rfl rfl rfl rfl rfl (d_ (b_ rfl (f_ (c_ (a_ (h_ rfl) rfl (a_ (h_ rfl) rfl (x_ (ej_ (k := (k : Int)) keyI Tryz.runUnderlying127 db_ rfl rfl hE (fun v h _ => (h.own _ (List.mem_of_getElem? (i := 1) rfl)).1)) rfl fun r5 hr5 => ?_))))))))
    refine a_ (bG_ rfl) rfl (d_ (b_ rfl ?_))
    cases r5
    ·
     replace hr5 := dF hr5
     refine n_ rfl (c_ (a_ (h_ rfl) rfl (a_ (L_ 0 bh_ U_ rfl rfl rfl) rfl (aK_ G_ U_ ap_ rfl rfl rfl rfl rfl rfl fun b5 => ?_))))
     refine bd_ (news := List.flatMap Pc.cells [x2]) kh_ hr_Rpc rfl rfl (e_ (e_ (e_ (e_ ai_)))) rfl (cQ_ 0 rfl) (fun u hu => bV_ Pc.cells_one hu) (by simp only [maxLen]; ((try simp only [List.length_append, List.length_cons, List.length_nil]); omega)) (by ((try simp only [List.length_append, List.length_cons, List.length_nil]); omega)) rfl fun sv1 Hr1 hr1 => ?_
     refine at_ List.perm_append_comm ?_
     have hq1 : bk_ 47 10 sv1 (List.length ((do_ wh 0 (List.take k (Wk.ps w))) ++ [x2])) (List.flatMap Pc.cells ((do_ wh 0 (List.take k (Wk.ps w))) ++ [x2])) Hr1 := by rw [List.length_append, List.flatMap_append]; exact hr1
     refine a_ (g_ rfl) rfl (d_ (b_ rfl (c_ (a_ (V_ rfl rfl rfl (aq_ (by omega) (by omega))) rfl (a_ (h_ rfl) rfl (d_ (r_ rfl ?_)))))))
     exact ao_ ⟨(k + 1, sv1, Hr1), hlx2, (by rw [jU_ hx2, if_neg (fun z => absurd ((hq _).2 z) (by assumption))]; exact hq1)⟩ (by dsimp only; omega) ⟨rfl, rfl, rfl, rfl, rfl, rfl, rfl, rfl, rfl, trivial⟩ (l_ (e_ (e_ i_)) (l_ (e_ (e_ i_)) (l_ (e_ (e_ i_)) (e_ ai_)))) (fun _ _ h => h)
    ·
     replace hr5 := dT hr5
     refine p_ rfl (A_ (b_ rfl (c_ (a_ (V_ rfl rfl rfl (aq_ (by omega) (by omega))) rfl (a_ (h_ rfl) rfl (d_ (r_ rfl ?_)))))))
     exact ao_ ⟨(k + 1, sv_Rpc, H_Rpc), hlx2, (by rw [jU_ hx2, if_pos ((hq _).1 (by assumption)), List.append_nil]; exact hr_Rpc)⟩ (by dsimp only; omega) ⟨rfl, rfl, rfl, rfl, rfl, rfl, rfl, rfl, rfl, trivial⟩ (l_ (e_ i_) (l_ (e_ i_) (l_ (e_ i_) ai_))) (fun _ _ h => h)
 ·
  replace hr1 := of_decide_eq_true hr1
  have hlx1 : i < List.length wh := by omega
  obtain ⟨x1, hx1⟩ : ∃ e0, wh[i]? = some e0 := ⟨_, List.getElem?_eq_getElem hlx1⟩
  have hmx1 : x1 ∈ wh := List.mem_of_getElem? hx1
  refine n_ rfl (A_ (b_ rfl (f_ (S_ (f_ (c_ (a_ (h_ rfl) rfl (a_ (ak_ ct_ H_ rfl rfl (fun v _ h => aL_ (n := 1) fQ_ (by decide) (by exact h.2.2.2.1) hx1) (by omega) (by first | omega | (simp; done))) rfl (a_ (bH_ (ad := had) J_ rfl (fun v _ h => by exact h.2.2.2.1) (an_ fQ_ hx1 0 _ rfl)) rfl ?_)))))))))
  refine a_ (g_ rfl) rfl (a_ (g_ rfl) rfl (d_ (b_ rfl (f_ (f_ (c_ (a_ (h_ rfl) rfl (x_ (az_ rfl rfl) rfl fun r6 hr6 => ?_))))))))
  refine a_ (h_ rfl) rfl ?_
  cases r6
  ·
   replace hr6 := of_decide_eq_false hr6
   refine o_ rfl rfl (a_ (h_ rfl) rfl (o_ rfl rfl (a_ (j_ aR_ rfl rfl rfl bU_) rfl (o_ rfl rfl (a_ (q_ 2 dG_ rfl rfl rfl) rfl (o_ rfl rfl (a_ (ah_ G_ rfl) rfl (o_ rfl rfl (x_ (dI_ rfl rfl) rfl fun r7 hr7 => ?_)))))))))
   refine a_ (N_ rfl rfl) rfl (a_ (h_ rfl) rfl ?_)
   cases r7
   ·
    replace hr7 := of_decide_eq_false hr7
    refine o_ rfl rfl (a_ (h_ rfl) rfl (o_ rfl rfl (x_ (bK_ rfl rfl) rfl fun r8 hr8 => ?_)))
    refine o_ rfl rfl (a_ (h_ rfl) rfl ?_)
    cases r8
    ·
     replace hr8 := of_decide_eq_false hr8
     refine t_ rfl rfl rfl rfl (t_ rfl rfl rfl rfl (t_ rfl rfl rfl rfl (t_ rfl rfl rfl rfl (t_ rfl rfl rfl rfl (t_ rfl rfl rfl rfl (t_ rfl rfl rfl rfl (o_ rfl rfl (a_ (N_ rfl rfl) rfl (a_ (N_ rfl rfl) rfl ?_)))))))))
     refine d_ (b_ rfl (p_ rfl (A_ (b_ rfl (c_ (a_ (h_ rfl) rfl (a_ (h_ rfl) rfl (fK_ (k := x1) 0 keyI (.inr rfl) Tryz.runUnderlying127 rfl rfl rfl rfl hE fun ej1 cj1 hj1 => ?_))))))))
     refine d_ (b_ rfl (c_ (a_ (V_ rfl rfl rfl (aq_ (by omega) (by omega))) rfl (a_ (h_ rfl) rfl (d_ (r_ rfl ?_))))))
     exact ao_ ⟨(i + 1, ej1, cj1, (if x1 ∈ q then q else q ++ [x1])), hlx1, hj1, jP_ hq hx1, fun x hx => by rw [List.take_add_one, hx1] at hx; simp only [Option.toList_some, List.mem_append, List.mem_singleton] at hx; rcases hx with hx | rfl; exact hb x hx; omega, ou_ (lt := fun x y : Int => x < y) Int.lt_trans hpw hx1 (fun a hja ha => by omega)⟩ (by dsimp only; omega) ⟨rfl, rfl, rfl, rfl, rfl, rfl, rfl, rfl, rfl, trivial⟩ (l_ i_ (l_ i_ i_)) (fun _ _ h => h)
    ·
     replace hr8 := of_decide_eq_true hr8
     have hly1 : (i - 1 : Nat) < List.length wh := by omega
     obtain ⟨y1, hy1⟩ : ∃ e0, wh[(i - 1 : Nat)]? = some e0 := ⟨_, List.getElem?_eq_getElem hly1⟩
     have hmy1 : y1 ∈ wh := List.mem_of_getElem? hy1
     refine o_ rfl rfl (a_ (h_ rfl) rfl (o_ rfl rfl (a_ (h_ rfl) rfl (o_ rfl rfl (a_ (cb_ (V_ rfl rfl rfl (aq_ (by omega) (by omega))) (show Value.int .i64 ((i : Int) - 1) = Value.int .i64 ((i - 1 : Nat) : Int) from congrArg _ (by omega))) rfl (o_ rfl rfl (a_ (ak_ ct_ H_ rfl rfl (fun v _ h => aL_ (n := 1) fQ_ (by decide) (by exact h.2.2.2.1) hy1) (by omega) (by first | omega | (simp; done))) rfl (o_ rfl rfl (a_ (bH_ (ad := had) J_ rfl (fun v _ h => by exact h.2.2.2.1) (an_ fQ_ hy1 0 _ rfl)) rfl ?_)))))))))
     refine o_ rfl rfl (a_ (h_ rfl) rfl (o_ rfl rfl (x_ (dI_ rfl rfl) rfl fun r9 hr9 => ?_)))
     refine o_ rfl rfl (a_ (R_ rfl rfl) rfl (a_ (N_ rfl rfl) rfl (d_ (b_ rfl ?_))))
     cases r9
     ·
      replace hr9 := of_decide_eq_false hr9
      refine p_ rfl (A_ (b_ rfl (c_ (a_ (h_ rfl) rfl (a_ (h_ rfl) rfl (fK_ (k := x1) 0 keyI (.inr rfl) Tryz.runUnderlying127 rfl rfl rfl rfl hE fun ej2 cj2 hj2 => ?_))))))
      refine d_ (b_ rfl (c_ (a_ (V_ rfl rfl rfl (aq_ (by omega) (by omega))) rfl (a_ (h_ rfl) rfl (d_ (r_ rfl ?_))))))
      exact ao_ ⟨(i + 1, ej2, cj2, (if x1 ∈ q then q else q ++ [x1])), hlx1, hj2, jP_ hq hx1, fun x hx => by rw [List.take_add_one, hx1] at hx; simp only [Option.toList_some, List.mem_append, List.mem_singleton] at hx; rcases hx with hx | rfl; exact hb x hx; omega, ou_ (lt := fun x y : Int => x < y) Int.lt_trans hpw hx1 (fun a hja ha => by rw [hy1] at ha; cases ha; omega)⟩ (by dsimp only; omega) ⟨rfl, rfl, rfl, rfl, rfl, rfl, rfl, rfl, rfl, trivial⟩ (l_ i_ (l_ i_ i_)) (fun _ _ h => h)
     ·
      replace hr9 := of_decide_eq_true hr9
      refine n_ rfl (f_ (c_ (a_ (ag_ eN_ rfl rfl) rfl (Z_ 1 am_ rfl rfl rfl rfl rfl rfl (a_ (g_ rfl) rfl (a_ (g_ rfl) rfl (d_ (b_ rfl (B_ ?_)))))))))
      exact dY_ ⟨((Wk.mk [] none 0 (Cl.mk [] none 0 [] none 0)), ([] : List Fc), none, 0, 1), by unfold fW_; rw [if_pos (fun z => by first | (have := (z.1.1 x1 hmx1); omega) | exact qs_ (lt := fun x y : Int => x < y) (by omega) hy1 hx1 (by omega) z.1.2)]; exact ⟨rfl, rfl, rfl⟩, ⟨Nat.le_refl _, by simp, fun _ => rfl⟩⟩ (fun aa v h1 h2 => dK_ (us := Wk.cells (Wk.mk [] none 0 (Cl.mk [] none 0 [] none 0))) 1 gI_ bm_ am_ rfl rfl rfl rfl rfl aa v h1 h2) W_ (fun v _ h => by exact ⟨.inl rfl, .inl rfl, .inl rfl, .inl rfl, trivial⟩)
   ·
    replace hr7 := of_decide_eq_true hr7
    refine t_ rfl rfl rfl rfl (t_ rfl rfl rfl rfl (t_ rfl rfl rfl rfl (t_ rfl rfl rfl rfl (t_ rfl rfl rfl rfl (t_ rfl rfl rfl rfl (t_ rfl rfl rfl rfl (t_ rfl rfl rfl rfl (t_ rfl rfl rfl rfl (t_ rfl rfl rfl rfl ?_)))))))))
    refine t_ rfl rfl rfl rfl (a_ (R_ rfl rfl) rfl (d_ (b_ rfl (n_ rfl (f_ (c_ (a_ (ag_ eN_ rfl rfl) rfl (Z_ 1 am_ rfl rfl rfl rfl rfl rfl (a_ (g_ rfl) rfl ?_)))))))))
    refine a_ (g_ rfl) rfl (d_ (b_ rfl (B_ ?_)))
    exact dY_ ⟨((Wk.mk [] none 0 (Cl.mk [] none 0 [] none 0)), ([] : List Fc), none, 0, 1), by unfold fW_; rw [if_pos (fun z => by first | (have := (z.1.1 x1 hmx1); omega) | exact qs_ (lt := fun x y : Int => x < y) (by omega) hy1 hx1 (by omega) z.1.2)]; exact ⟨rfl, rfl, rfl⟩, ⟨Nat.le_refl _, by simp, fun _ => rfl⟩⟩ (fun aa v h1 h2 => dK_ (us := Wk.cells (Wk.mk [] none 0 (Cl.mk [] none 0 [] none 0))) 1 gI_ bm_ am_ rfl rfl rfl rfl rfl aa v h1 h2) W_ (fun v _ h => by exact ⟨.inl rfl, .inl rfl, .inl rfl, .inl rfl, trivial⟩)
  ·
   replace hr6 := of_decide_eq_true hr6
   refine t_ rfl rfl rfl rfl (t_ rfl rfl rfl rfl (t_ rfl rfl rfl rfl (t_ rfl rfl rfl rfl (t_ rfl rfl rfl rfl (a_ (R_ rfl rfl) rfl (a_ (h_ rfl) rfl (t_ rfl rfl rfl rfl (t_ rfl rfl rfl rfl (t_ rfl rfl rfl rfl ?_)))))))))
   refine t_ rfl rfl rfl rfl (t_ rfl rfl rfl rfl (t_ rfl rfl rfl rfl (t_ rfl rfl rfl rfl (t_ rfl rfl rfl rfl (t_ rfl rfl rfl rfl (t_ rfl rfl rfl rfl (t_ rfl rfl rfl rfl (a_ (R_ rfl rfl) rfl (d_ ?_)))))))))
   refine b_ rfl (n_ rfl (f_ (c_ (a_ (ag_ eN_ rfl rfl) rfl (Z_ 1 am_ rfl rfl rfl rfl rfl rfl (a_ (g_ rfl) rfl (a_ (g_ rfl) rfl (d_ (b_ rfl ?_)))))))))
   refine B_ ?_
   exact dY_ ⟨((Wk.mk [] none 0 (Cl.mk [] none 0 [] none 0)), ([] : List Fc), none, 0, 1), by unfold fW_; rw [if_pos (fun z => by first | (have := (z.1.1 x1 hmx1); omega) | exact qs_ (lt := fun x y : Int => x < y) (by omega) hy1 hx1 (by omega) z.1.2)]; exact ⟨rfl, rfl, rfl⟩, ⟨Nat.le_refl _, by simp, fun _ => rfl⟩⟩ (fun aa v h1 h2 => dK_ (us := Wk.cells (Wk.mk [] none 0 (Cl.mk [] none 0 [] none 0))) 1 gI_ bm_ am_ rfl rfl rfl rfl rfl aa v h1 h2) W_ (fun v _ h => by exact ⟨.inl rfl, .inl rfl, .inl rfl, .inl rfl, trivial⟩)
end Go.Proofs.YtpdbbglpbngeiaaGreatDoor
namespace Go.Proofs.YtpdbbglpbngeiaaGreatDoor
open Go Go.Sx Go.Proofs
attribute [local irreducible] Code.wp wpList wpAnyH
open Go.Vs
theorem sh_ (p : List Pc) (pad : Option Addr) (pcap : Nat) (hp : p.length ≤ 1099511627776) (hbig : ∀ x ∈ p, x.big) : Tri Tryz.prog 31 #[.slice pad (List.length p) pcap] [] [aS_ pad (List.flatMap Pc.cells p)] (fun b : {b : Bool // b = true → p.length ≤ 30 ∧ ∀ x ∈ p, x.sm} => .bool b.1) (fun _ => []) (fun _ => []) := by
  refine M_ Tryz.func31 rfl rfl Tryz.ntmps31 rfl fun v0 => ?_
  refine f_ (c_ (a_ (g_ rfl) rfl (d_ (b_ rfl (f_ (c_ (a_ (g_ rfl) rfl (d_ (b_ rfl ?_)))))))))
  refine f_ (f_ (c_ (a_ (h_ rfl) rfl (a_ (ah_ G_ rfl) rfl (a_ (h_ rfl) rfl (d_ (b_ rfl (S_ ?_))))))))
  refine aV_ (ι := {y : Nat × Int // y.1 ≤ List.length p ∧ (List.length p ≤ 30 → y.2 = gC_ (List.take y.1 p))}) (fun y => [(0, .slice pad (List.length p) pcap), (3, .int .i64 y.1.2), (6, .slice pad (List.length p) pcap), (7, .int .i64 (List.length p : Int)), (8, .int .i64 (y.1.1 : Int))]) (fun y => ([])) (fun y => [aS_ pad (List.flatMap Pc.cells p)]) (fun y => List.length p - y.1.1) ⟨((0 : Nat), 0), by simp, fun _ => rfl⟩ ⟨rfl, rfl, rfl, rfl, rfl, trivial⟩ W_ (fun _ _ h => h) ?_
  rintro ⟨⟨i, w⟩, hi, hw⟩
  dsimp only at hi hw ⊢
  refine f_ (c_ (x_ (az_ rfl rfl) rfl fun r1 hr1 => ?_))
  refine d_ (b_ rfl (f_ ?_))
  cases r1
  · skip
    replace hr1 := of_decide_eq_false hr1
    refine p_ rfl (aD_ rfl (b_ rfl (f_ (c_ (a_ (h_ rfl) rfl (a_ (ah_ G_ rfl) rfl (x_ (cJ_ rfl rfl) rfl fun r2 hr2 => ?_)))))))
    refine a_ (h_ rfl) rfl ?_
    cases r2
    · skip
      replace hr2 := of_decide_eq_false hr2
      refine t_ rfl rfl rfl rfl (t_ rfl rfl rfl rfl (a_ (N_ rfl rfl) rfl (a_ (g_ rfl) rfl (d_ (b_ rfl (B_ ?_))))))
      exact as_ Tryz.results31 ⟨false, fun h => by cases h⟩ rfl W_ (fun _ _ _ => trivial)
    · skip
      replace hr2 := of_decide_eq_true hr2
      refine o_ rfl rfl (a_ (h_ rfl) rfl (o_ rfl rfl (x_ (cJ_ rfl rfl) rfl fun r3 hr3 => ?_)))
      refine a_ (R_ rfl rfl) rfl (a_ (g_ rfl) rfl (d_ (b_ rfl (B_ ?_))))
      exact as_ Tryz.results31 ⟨r3, fun h => ⟨by omega, by rw [h] at hr3; have hle := of_decide_eq_true hr3; rw [hw (by omega), List.take_of_length_le (by omega)] at hle; exact ow_ hle (by decide)⟩⟩ rfl W_ (fun _ _ _ => trivial)
  · skip
    replace hr1 := of_decide_eq_true hr1
    have hlx1 : i < List.length p := by omega
    obtain ⟨x1, hx1⟩ : ∃ e0, p[i]? = some e0 := ⟨_, List.getElem?_eq_getElem hlx1⟩
    have hmx1 : x1 ∈ p := List.mem_of_getElem? hx1
    obtain ⟨q1, q2, q3, q4, q5, q6⟩ := hbig x1 hmx1
    refine n_ rfl (A_ (b_ rfl (f_ (S_ (f_ (c_ (a_ (ak_ G_ U_ rfl rfl (fun v _ h => aL_ (n := 10) Pc.cells_len (by decide) (by exact h.1) hx1) (by omega) (by first | omega | (simp; done))) rfl (a_ (aE_ (ad := pad) (us := Pc.cells x1) bh_ U_ rfl (fun v _ h => by exact h.1) (Pc.cells_len _) (an_ Pc.cells_len hx1)) rfl (al_ ap_ rfl fun b1 => ?_)))))))))
    refine Z_ 0 U_ rfl rfl rfl rfl rfl rfl (d_ (b_ rfl (c_ (a_ (h_ rfl) rfl (a_ (j_ F_ rfl rfl rfl s_) rfl (a_ (q_ 0 w_ rfl rfl rfl) rfl (a_ (co_ ar_ rfl) rfl (a_ (j_ F_ rfl rfl rfl s_) rfl (a_ (q_ 0 w_ rfl rfl rfl) rfl ?_)))))))))
    refine a_ (co_ ar_ rfl) rfl (a_ (V_ rfl rfl rfl (aq_ (by omega) (by omega))) rfl (a_ (j_ F_ rfl rfl rfl s_) rfl (a_ (q_ 0 w_ rfl rfl rfl) rfl (a_ (co_ ar_ rfl) rfl (a_ (V_ rfl rfl rfl (aq_ (by omega) (by omega))) rfl (a_ (j_ F_ rfl rfl rfl s_) rfl (a_ (q_ 0 w_ rfl rfl rfl) rfl (a_ (co_ ar_ rfl) rfl (a_ (V_ rfl rfl rfl (aq_ (by omega) (by omega))) rfl ?_)))))))))
    refine a_ (j_ F_ rfl rfl rfl s_) rfl (a_ (q_ 0 w_ rfl rfl rfl) rfl (a_ (co_ ar_ rfl) rfl (a_ (V_ rfl rfl rfl (aq_ (by omega) (by omega))) rfl (a_ (j_ F_ rfl rfl rfl s_) rfl (a_ (q_ 0 w_ rfl rfl rfl) rfl (a_ (co_ ar_ rfl) rfl (a_ (V_ rfl rfl rfl (aq_ (by omega) (by omega))) rfl (a_ (pU_ rfl rfl) rfl (a_ (g_ rfl) rfl ?_)))))))))
    refine d_ (b_ rfl (c_ (a_ (V_ rfl rfl rfl (aq_ (by omega) (by omega))) rfl (a_ (h_ rfl) rfl (d_ (r_ rfl ?_))))))
    exact ao_ ⟨(i + 1, (IntKind.wrap .i64 (w + (((((((Pc.a x1).length : Int) + ((Pc.b x1).length : Int)) + ((Pc.c x1).length : Int)) + ((Pc.r x1).length : Int)) + ((Pc.s x1).length : Int)) + ((Pc.t x1).length : Int))))), hlx1, fun h40 => by rw [pl_ hx1, hw h40]; have hq := mD_ (l := List.take i p) (fun x hx => hbig x (List.mem_of_mem_take hx)); rw [List.length_take] at hq; unfold jC_; exact aq_ (by omega) (by omega)⟩ (by dsimp only; omega) ⟨rfl, rfl, rfl, rfl, rfl, trivial⟩ W_ (fun _ _ h => h)
section
variable {P : Program} {N : Nat} {fr : Fr} {H : Hp} {Γ : List Fct} {ty : TypeId}
end
def P13 : List Pc := [⟨1, [65], [], [66], [], [], [], 0, 0, 0⟩, ⟨1, [66], [], [67], [], [], [], 0, 0, 0⟩, ⟨1, [65], [], [67], [], [], [], 0, 0, 0⟩]
def P12 : List Pc := [⟨1, [65], [], [66], [], [], [], 0, 0, 0⟩, ⟨1, [66], [], [67], [], [], [], 0, 0, 0⟩]
def P11 : List Pc := [⟨1, [65], [], [66], [], [], [], 0, 0, 0⟩]
theorem oi_ {p : List Pc} {B : List Str} (hs : sB_ B) (h : ∀ x, x ∈ B ↔ x ∈ cB_ p ∨ x = [42] ∨ x = [33]) : atS p = B :=
  fj_ eq_ List.lt_trans (lR_ p) hs fun x => by rw [lQ_, gu_, h]
theorem sv_ : atS P13 = A3 := oi_ (by decide) fun x => by
  have e : cB_ P13 = [[65], [66], [66], [67], [65], [67]] := by decide +kernel
  rw [e]; simp only [A3, List.mem_cons, List.not_mem_nil, or_false]
  constructor
  · rintro (h | h | h | h | h) <;> simp [h]
  · rintro ((h | h | h | h | h | h) | h | h) <;> simp [h]
theorem sw_ : atS P12 = A3 := oi_ (by decide) fun x => by
  have e : cB_ P12 = [[65], [66], [66], [67]] := by decide +kernel
  rw [e]; simp only [A3, List.mem_cons, List.not_mem_nil, or_false]
  constructor
  · rintro (h | h | h | h | h) <;> simp [h]
  · rintro ((h | h | h | h) | h | h) <;> simp [h]
def A2 : List Str := [[33], [42], [65], [66]]
theorem sx_ : atS P11 = A2 := oi_ (by decide) fun x => by
  have e : cB_ P11 = [[65], [66]] := by decide +kernel
  rw [e]; simp only [A2, List.mem_cons, List.not_mem_nil, or_false]
  constructor
  · rintro (h | h | h | h) <;> simp [h]
  · rintro ((h | h) | h | h) <;> simp [h]
theorem lU_ : bD_ P13 = 0 := by decide +kernel
theorem oM_ : bD_ P12 = 0 := by decide +kernel
theorem oN_ : bD_ P11 = 0 := by decide +kernel
def F13 : List Fc := hn_ P13 A3 4
def F11 : List Fc := hn_ P11 A2 4
theorem F13_is : cT_ P13 A3 100 (some F13) := im_ (hm_ lU_) 4 100 (by decide +kernel) (by decide +kernel)
theorem F12_is : cT_ P12 A3 100 (some F13) := by
  have h : cT_ P12 A3 100 (some (hn_ P12 A3 4)) := im_ (hm_ oM_) 4 100 (by decide +kernel) (by decide +kernel)
  have e : hn_ P12 A3 4 = F13 := by decide +kernel
  rw [e] at h; exact h
theorem F11_is : cT_ P11 A2 100 (some F11) := im_ (hm_ oN_) 4 100 (by decide +kernel) (by decide +kernel)
theorem rt_ : (bF_ F13 F0).length = 9 := by decide +kernel
theorem qY_ : (bF_ F13 F13).length = 0 := by decide +kernel
theorem qH_ : (bF_ F13 F11).length = 4 := by decide +kernel
theorem oO_ : F13.length = 12 := by decide +kernel
theorem hN_ {p : List Pc} {bu : Int} {w : Wk} {e : Int} {L : List Fc} (h : cS_ p bu w e) (hc : bD_ p = 0) (hb : 0 ≤ bu) (hb2 : bu ≤ 1073741824) (hr : cT_ p (atS p) (min bu 65536).toNat (some L)) : e = 0 ∧ w.ps = p ∧ w.cl.facts = L ∧ w.cl.atoms = atS p ∧ w.ok := by
  obtain ⟨c, h1, h2, _⟩ := h
  obtain ⟨q1, q2, q3⟩ := (jf_ h1 hc hb hb2 hr).1 _ rfl
  obtain ⟨r1, r2, r3⟩ := h2 q1
  exact ⟨q1, r1, by rw [r2, q2], by rw [r2, q3], r3⟩
theorem s13_1 {w : Wk} {e : Int} (h : cS_ [] 3 w e) : e = 0 ∧ w.ps = [] ∧ w.cl.facts = F0 ∧ w.ok := by
  obtain ⟨a, b, c, _, d⟩ := hN_ h lo_ (by decide) (by decide) (L := F0) (by rw [lP_]; exact F0_is 3 (by decide))
  exact ⟨a, b, c, d⟩
theorem s13_2 {w : Wk} {e : Int} (h : cS_ [] 2 w e) : e = 3 := by
  obtain ⟨c, h1, _⟩ := h
  exact (sane2 h1).1
theorem s13_3 {w x : Wk} {g : List Fc} {e : Int} (hw : w.ps = []) (hf : w.cl.facts = F0) (h : gv_ w P13 100 x g e) : e = 0 ∧ x.ps = P13 ∧ x.cl.facts = F13 ∧ x.ok ∧ g.length = 9 := by
  unfold gv_ at h
  rw [if_neg (by rw [lU_]; decide), if_neg (by decide), if_neg (by rw [hw]; decide), hw, List.nil_append] at h
  obtain ⟨a, b, c, _, d⟩ := hN_ h.1 lU_ (by decide) (by decide) (L := F13) (by rw [sv_]; exact F13_is)
  refine ⟨a, b, c, d, ?_⟩
  rw [h.2, if_pos a, c, hf]; exact rt_
theorem s13_4 {x y : Wk} {g : List Fc} {e : Int} (hx : x.ps = P13) (hf : x.cl.facts = F13) (h : fW_ x [2] 100 y g e) : e = 0 ∧ y.ps = P12 ∧ y.cl.facts = F13 ∧ y.ok ∧ g.length = 0 := by
  unfold fW_ at h
  rw [if_neg (by rw [hx]; decide), hx, show do_ [2] 0 P13 = P12 by decide +kernel] at h
  obtain ⟨a, b, c, _, d⟩ := hN_ h.1 oM_ (by decide) (by decide) (L := F13) (by rw [sw_]; exact F12_is)
  refine ⟨a, b, c, d, ?_⟩
  rw [h.2, if_pos a, c, hf]; exact qY_
theorem s13_5 {x y : Wk} {g : List Fc} {e : Int} (hx : x.ps = P12) (hf : x.cl.facts = F13) (h : fW_ x [1] 100 y g e) : e = 0 ∧ g.length = 4 := by
  unfold fW_ at h
  rw [if_neg (by rw [hx]; decide), hx, show do_ [1] 0 P12 = P11 by decide +kernel] at h
  obtain ⟨a, b, c, _, d⟩ := hN_ h.1 oN_ (by decide) (by decide) (L := F11) (by rw [sx_]; exact F11_is)
  refine ⟨a, ?_⟩
  rw [h.2, if_pos a, c, hf]; exact qH_
theorem s13_6 {e : Int} (h : iE_ Wk.no e) : e = 1 := by
  unfold iE_ at h
  rw [if_neg (by rw [show Wk.no.ps = [] from rfl, lo_]; decide)] at h
  obtain ⟨c, e1, h1, h2⟩ := h
  rw [h2, if_neg]
  rintro ⟨q1, q2, _⟩
  subst q1
  have h1' : dj_ [] 1073741824 c 0 := h1
  have := h1'.good.2.2.2.2.1
  rw [q2, lP_] at this
  cases this
theorem rn_ : ∀ x ∈ P13, x.sm := Pc.sm_all (by decide +kernel)
theorem P12_sm : ∀ x ∈ P12, x.sm := Pc.sm_all (by decide +kernel)
end Go.Proofs.YtpdbbglpbngeiaaGreatDoor
namespace Go.Proofs.YtpdbbglpbngeiaaGreatDoor
open Go Go.Sx Go.Proofs
attribute [local irreducible] Code.wp wpList wpAnyH
open Go.Vs
set_option maxHeartbeats 1000000 in
theorem qj_ : Tri Tryz.prog 30 #[] [] [gB_] (fun _ : Unit => .bool true) (fun _ => []) (fun _ => []) := by
 refine M_ Tryz.func30 rfl rfl Tryz.ntmps30 rfl fun v0 => ?_
 refine f_ (c_ (a_ (g_ rfl) rfl (d_ (b_ rfl (f_ (c_ (Q_ (hO_ ([] : List Pc) none 0 3 (fun y hy => by simp at hy) (Nat.le_refl _) (by simp)) rfl W_ (fun v _ h => by exact ⟨.inl rfl, h.1, trivial⟩) rfl fun ⟨⟨w1, e1⟩, hw1⟩ => ?_)))))))
 dsimp only
 dsimp only at hw1
 obtain ⟨rfl, hp1, hf1, hk1⟩ := s13_1 hw1
 refine a_ (h_ rfl) rfl (a_ (ae_ rfl rfl) rfl (a_ (ae_ rfl rfl) rfl (al_ cN_ rfl fun b1 => ?_)))
 refine Z_ 0 am_ rfl rfl rfl rfl rfl rfl (a_ (g_ rfl) rfl (d_ (b_ rfl (f_ (c_ (Q_ (hO_ ([] : List Pc) none 0 2 (fun y hy => by simp at hy) (Nat.le_refl _) (by simp)) rfl W_ (fun v _ h => by exact ⟨.inl rfl, h.2.2.2.1, trivial⟩) rfl fun ⟨⟨w2, e2⟩, hw2⟩ => ?_))))))
 dsimp only
 dsimp only at hw2
 obtain rfl := s13_2 hw2
 refine a_ (h_ rfl) rfl (a_ (ae_ rfl rfl) rfl (a_ (ae_ rfl rfl) rfl (al_ cN_ rfl fun b2 => ?_)))
 refine Z_ 0 am_ rfl rfl rfl rfl rfl rfl (a_ (g_ rfl) rfl (d_ (b_ rfl (f_ (c_ (a_ (ag_ du_ rfl rfl) rfl (a_ (ag_ du_ rfl rfl) rfl (a_ (ag_ du_ rfl rfl) rfl (aK_ G_ U_ ap_ rfl rfl rfl rfl rfl rfl fun b3 => ?_)))))))))
 refine dT_ (List.flatMap Pc.cells [(Pc.mk 1 [65] [] [66] [] [] [] 0 0 0), (Pc.mk 1 [66] [] [67] [] [] [] 0 0 0), (Pc.mk 1 [65] [] [67] [] [] [] 0 0 0)]) i_ rfl ?_
 refine a_ (g_ rfl) rfl (d_ (b_ rfl (f_ (c_ (a_ (L_ 1 bm_ am_ rfl rfl rfl) rfl (a_ (h_ rfl) rfl (Q_ (add_c w1 P13 (some ⟨b3, 0, none⟩) 3 100 (fun y hy => by rw [hp1] at hy; simp at hy) hk1.al hk1.az (by rw [hp1]; simp) (by rw [hf1, rq_]; omega) rn_ (by decide) (fun z => by cases z) (by decide)) rfl W_ (fun v _ h => by exact ⟨h.2.2.2.2.1, h.2.2.2.2.2.1, h.2.2.2.2.2.2.1, h.1, h.2.2.2.2.2.2.2.1, trivial⟩) rfl fun ⟨⟨w3, g3, gad3, gcp3, e3⟩, ha3, hb3⟩ => ?_)))))))
 dsimp only
 dsimp only at ha3 hb3
 obtain ⟨rfl, hp3, hf3, hk3, hg3⟩ := s13_3 hp1 hf1 ha3
 refine a_ (h_ rfl) rfl (a_ (ae_ rfl rfl) rfl (a_ (ae_ rfl rfl) rfl (a_ (ae_ rfl rfl) rfl (al_ cN_ rfl fun b4 => ?_))))
 refine Z_ 0 am_ rfl rfl rfl rfl rfl rfl (a_ (g_ rfl) rfl (a_ (g_ rfl) rfl (d_ (b_ rfl (f_ (c_ (a_ (L_ 0 bm_ am_ rfl rfl rfl) rfl (aK_ ct_ H_ io_ rfl rfl rfl rfl rfl rfl fun b5 => ?_))))))))
 refine dT_ (List.flatMap iz_ [2]) i_ rfl ?_
 refine Q_ (jx_ w3 [2] (some ⟨b5, 0, none⟩) 1 100 (fun y hy => by rw [hp3] at hy; exact rn_ y hy) hk3.al hk3.az (by rw [hp3]; decide) (by rw [hf3, oO_]; omega) (by simp)) rfl W_ (fun v _ h => by exact ⟨h.2.1, h.2.2.1, h.2.2.2.1, h.1, h.2.2.2.2.2.2.2.2.2.2.2.2.1, trivial⟩) rfl fun ⟨⟨w4, g4, gad4, gcp4, e4⟩, ha4, hb4⟩ => ?_
 dsimp only
 dsimp only at ha4 hb4
 obtain ⟨rfl, hp4, hf4, hk4, hg4⟩ := s13_4 hp3 hf3 ha4
 refine a_ (h_ rfl) rfl (a_ (ae_ rfl rfl) rfl (a_ (ae_ rfl rfl) rfl (a_ (ae_ rfl rfl) rfl (al_ cN_ rfl fun b6 => ?_))))
 refine Z_ 0 am_ rfl rfl rfl rfl rfl rfl (a_ (g_ rfl) rfl (a_ (g_ rfl) rfl (d_ (b_ rfl (f_ (c_ (a_ (L_ 0 bm_ am_ rfl rfl rfl) rfl (aK_ ct_ H_ io_ rfl rfl rfl rfl rfl rfl fun b7 => ?_))))))))
 refine dT_ (List.flatMap iz_ [1]) i_ rfl ?_
 refine Q_ (jx_ w4 [1] (some ⟨b7, 0, none⟩) 1 100 (fun y hy => by rw [hp4] at hy; exact P12_sm y hy) hk4.al hk4.az (by rw [hp4]; decide) (by rw [hf4, oO_]; omega) (by simp)) rfl W_ (fun v _ h => by exact ⟨h.2.1, h.2.2.1, h.2.2.2.1, h.1, h.2.2.2.2.2.2.2.2.2.2.2.2.2.2.2.2.2.1, trivial⟩) rfl fun ⟨⟨w5, g5, gad5, gcp5, e5⟩, ha5, hb5⟩ => ?_
 dsimp only
 dsimp only at ha5 hb5
 obtain ⟨rfl, hg5⟩ := s13_5 hp4 hf4 ha5
 refine a_ (h_ rfl) rfl (a_ (ae_ rfl rfl) rfl (a_ (ae_ rfl rfl) rfl (a_ (ae_ rfl rfl) rfl (al_ cN_ rfl fun b8 => ?_))))
 refine Z_ 0 am_ rfl rfl rfl rfl rfl rfl (a_ (g_ rfl) rfl (a_ (g_ rfl) rfl (d_ (b_ rfl (f_ (c_ (a_ (h_ rfl) rfl (a_ (cb_ (aA_ rfl rfl) (show _ = Value.bool true from congrArg Value.bool (by decide))) rfl (a_ (h_ rfl) rfl ?_)))))))))
 refine o_ rfl rfl (a_ (j_ aR_ rfl rfl rfl ay_) rfl (o_ rfl rfl (a_ (j_ bf_ rfl rfl rfl cu_) rfl (o_ rfl rfl (a_ (q_ 4 bX_ rfl rfl rfl) rfl (o_ rfl rfl (a_ (ah_ aj_ rfl) rfl (o_ rfl rfl (x_ (aA_ rfl rfl) rfl fun r1 hr1 => ?_)))))))))
 refine a_ (R_ rfl rfl) rfl (a_ (h_ rfl) rfl ?_)
 cases r1
 ·
  replace hr1 := ne_of_beq_false hr1
  exact absurd (by rw [hf1, rq_]; rfl) hr1
 ·
  replace hr1 := eq_of_beq hr1
  refine o_ rfl rfl (a_ (h_ rfl) rfl (o_ rfl rfl (a_ (cb_ (aA_ rfl rfl) (show _ = Value.bool true from congrArg Value.bool (by decide))) rfl (a_ (R_ rfl rfl) rfl (a_ (h_ rfl) rfl (o_ rfl rfl (a_ (ag_ eN_ rfl rfl) rfl (o_ rfl rfl (Q_ (ri_ ((Wk.mk [] none 0 (Cl.mk [] none 0 [] none 0))) (fun y hy => by simp at hy) (by simp) (by simp) (by simp)) rfl W_ (fun v _ h => by exact ⟨.inl rfl, .inl rfl, .inl rfl, h.2.2.2.2.2.2.2.2.2.2.2.2.2.2.2.2.2.2.2.2.2.1, trivial⟩) rfl fun ⟨e9, he9⟩ => ?_)))))))))
  dsimp only
  obtain rfl := s13_6 he9
  refine o_ rfl rfl (a_ (cb_ (aA_ rfl rfl) (show _ = Value.bool true from congrArg Value.bool (by decide))) rfl (a_ (R_ rfl rfl) rfl (a_ (h_ rfl) rfl (o_ rfl rfl (a_ (h_ rfl) rfl (o_ rfl rfl (a_ (cb_ (aA_ rfl rfl) (show _ = Value.bool true from congrArg Value.bool (by decide))) rfl (a_ (R_ rfl rfl) rfl (a_ (h_ rfl) rfl ?_)))))))))
  refine o_ rfl rfl (a_ (h_ rfl) rfl (o_ rfl rfl (a_ (ah_ aj_ rfl) rfl (o_ rfl rfl (x_ (aA_ rfl rfl) rfl fun r2 hr2 => ?_)))))
  refine a_ (R_ rfl rfl) rfl (a_ (h_ rfl) rfl ?_)
  cases r2
  ·
   replace hr2 := ne_of_beq_false hr2
   exact absurd (by rw [hg3]; rfl) hr2
  ·
   replace hr2 := eq_of_beq hr2
   refine o_ rfl rfl (a_ (h_ rfl) rfl (o_ rfl rfl (a_ (cb_ (aA_ rfl rfl) (show _ = Value.bool true from congrArg Value.bool (by decide))) rfl (a_ (R_ rfl rfl) rfl (a_ (h_ rfl) rfl (o_ rfl rfl (a_ (h_ rfl) rfl (o_ rfl rfl (a_ (ah_ aj_ rfl) rfl ?_)))))))))
   refine o_ rfl rfl (x_ (aA_ rfl rfl) rfl fun r3 hr3 => ?_)
   refine a_ (R_ rfl rfl) rfl (a_ (h_ rfl) rfl ?_)
   cases r3
   ·
    replace hr3 := ne_of_beq_false hr3
    exact absurd (by rw [hg4]; rfl) hr3
   ·
    replace hr3 := eq_of_beq hr3
    refine o_ rfl rfl (a_ (h_ rfl) rfl (o_ rfl rfl (a_ (cb_ (aA_ rfl rfl) (show _ = Value.bool true from congrArg Value.bool (by decide))) rfl (a_ (R_ rfl rfl) rfl (a_ (h_ rfl) rfl (o_ rfl rfl (a_ (h_ rfl) rfl (o_ rfl rfl (a_ (ah_ aj_ rfl) rfl ?_)))))))))
    refine o_ rfl rfl (x_ (aA_ rfl rfl) rfl fun r4 hr4 => ?_)
    refine a_ (R_ rfl rfl) rfl (a_ (g_ rfl) rfl (d_ (b_ rfl (B_ ?_))))
    exact as_ Tryz.results30 () (E_ rfl (by rw [← hr4, hg5]; rfl)) W_ (fun _ _ _ => trivial)
end Go.Proofs.YtpdbbglpbngeiaaGreatDoor
namespace Go.Proofs.YtpdbbglpbngeiaaGreatDoor
open Go Go.Sx Go.Proofs
attribute [local irreducible] Code.wp wpList wpAnyH
open Go.Vs
structure Chg where
  ps : List Pc
  ad : Option Addr
  cap : Nat
  msk : Int
def Chg.cells (c : Chg) : List Value := [.slice c.ad c.ps.length c.cap, .int .u32 c.msk]
theorem Chg.cells_len (c : Chg) : c.cells.length = 2 := rfl
def Chg.val (c : Chg) : Value := .agg c.cells.toArray
structure Chg.ok (c : Chg) : Prop where
  le : c.ps.length ≤ c.cap
  nz : c.ad = none → c.cap = 0
  mx : c.cap ≤ 1099511627744
  big : ∀ x ∈ c.ps, x.big
theorem sm_big {x : Pc} (h : x.sm) : x.big := ⟨Nat.le_trans h.a (by decide), Nat.le_trans h.b (by decide), Nat.le_trans h.c (by decide), Nat.le_trans h.r (by decide), Nat.le_trans h.s (by decide), Nat.le_trans h.t (by decide)⟩
theorem lG_ {X W : List Fc} (hX : X.Nodup) (hW : W.Nodup) (h : ∀ z ∈ W, z ∈ X) : (bF_ X W).length + W.length = X.length := by
  have h1 : (X.filter fun f => decide (f ∈ W)).length = W.length := by
    refine Nat.le_antisymm (fL_ (hX.sublist List.filter_sublist) fun x hx => ?_) (fL_ hW fun x hx => ?_)
    · simpa using (List.mem_filter.1 hx).2
    · exact List.mem_filter.2 ⟨h x hx, by simpa using hx⟩
  have h2 : ∀ Y : List Fc, (Y.filter fun f => !decide (f ∈ W)).length + (Y.filter fun f => decide (f ∈ W)).length = Y.length := by
    intro Y
    induction Y with
    | nil => rfl
    | cons a Y ih => by_cases k : a ∈ W <;> simp [k] at ih ⊢ <;> omega
  have h3 := h2 X
  unfold bF_
  rw [h1] at h3
  exact h3
end Go.Proofs.YtpdbbglpbngeiaaGreatDoor
namespace Go.Proofs.YtpdbbglpbngeiaaGreatDoor
open Go Go.Sx Go.Proofs
attribute [local irreducible] Code.wp wpList wpAnyH
open Go.Vs
theorem cS_.sm {p : List Pc} {bu : Int} {w : Wk} {e : Int} (h : cS_ p bu w e) (hs : ∀ x ∈ p, x.sm) : ∀ x ∈ w.ps, x.sm := by
  obtain ⟨c, _, h1, h2⟩ := h
  by_cases he : e = 0
  · rw [(h1 he).1]; exact hs
  · rw [h2 he]; intro x hx; simp [Wk.no] at hx
theorem gv_.run {w : Wk} {p : List Pc} {x : Wk} {new : List Fc} {e : Int} (h : gv_ w p 1073741824 x new e) (hc : bD_ p = 0) (hl : w.ps.length + p.length ≤ 16384) : cS_ (w.ps ++ p) 1073741824 x e ∧ new = if e = 0 then bF_ x.cl.facts w.cl.facts else [] := by
  unfold gv_ at h
  rw [if_neg (by simp [hc]), if_neg (by simp), if_neg (by omega)] at h
  exact h
theorem sn_ {w : Wk} {e : Int} (h : iE_ w e) (k : dj_ w.ps 1073741824 w.cl 0) : e = 0 := by
  unfold iE_ at h
  rw [if_neg (by simp [k.good.1])] at h
  obtain ⟨c, e1, a1, b1⟩ := h
  obtain ⟨q1, q2, q3⟩ := lb_ a1 k
  rw [b1, if_pos ⟨q3, q1, q2⟩]
theorem dj_.sub' {p : List Pc} {bu : Int} {w : Wk} (h : cS_ p bu w 0) : dj_ w.ps bu w.cl 0 := by
  obtain ⟨h1, _, h3⟩ := h.good
  rw [h1]; exact h3
end Go.Proofs.YtpdbbglpbngeiaaGreatDoor
namespace Go.Proofs.YtpdbbglpbngeiaaGreatDoor
open Go Go.Sx Go.Proofs
attribute [local irreducible] Code.wp wpList wpAnyH
open Go.Vs
theorem qy_ (l : List Ax) (ad : Option Addr) (cap : Nat) (hcap : l.length ≤ cap ∧ cap ≤ 2199023255488) (hok : ∀ x ∈ l, x.ok) {p : List Pc} {er : Int} (e : bn_ l = (p, er)) :
    Tri Tryz.prog 49 #[.slice ad l.length cap] [] [no_ ad l, dB_] (fun y : {y : Option Addr × Nat // p.length ≤ y.2 ∧ y.2 ≤ maxLen} => .tuple #[.slice y.1.1 p.length y.1.2, .int .i64 er]) (fun _ => []) (fun y => [aS_ y.1.1 (p.flatMap Pc.cells)]) := by
  have h := qz_ l ad cap hcap hok
  generalize bn_ l = g at h e
  subst e
  exact h
theorem rU_ {l : List Ax} {p : List Pc} {er : Int} (hl : l.length ≤ 8) (hok : ∀ x ∈ l, x.ok) (hP : bn_ l = (p, er)) : (er = 0 → bD_ p = 0) ∧ p.length ≤ 12000 ∧ ∀ q ∈ p, q.sm := by
  have h := pq_ (k := 0) (by omega) (Nat.zero_le _) hok hP rfl rfl
  exact ⟨h.chk, h.len.1, h.sm⟩
section
variable {p : List Pc} {m : Nat} {L : List Fc} {x : Pc} (h : cT_ p (atS p) m (some L)) (hc : bD_ p = 0) (hx : x ∈ p)
include h hc hx
omit hc in
end
end Go.Proofs.YtpdbbglpbngeiaaGreatDoor
namespace Go.Proofs.YtpdbbglpbngeiaaGreatDoor
open Go Go.Sx Go.Proofs
attribute [local irreducible] Code.wp wpList wpAnyH
open Go.Vs Go.ChangeShapes Go.WideShapes Go.ChangeAt Go.RowKit
theorem own : ownKnob Tryz.prog.godebug = none := by kernel_rfl
def fw_ : List (String × DataW Unit) := [("math/bits.deBruijn32tab", Rows.laid_math_bits_deBruijn32tab), ("math/bits.deBruijn64tab", Rows.laid_math_bits_deBruijn64tab), ("internal/strconv.uint64pow10", Rows.laid_internal_strconv_uint64pow10), ("unicode/utf8.acceptRanges", Rows.laid_unicode_utf8_acceptRanges), ("veilstone/terms.needs", Rows.laid_veilstone_terms_needs), ("veilstone/terms.uses", Rows.laid_veilstone_terms_uses), ("veilstone/normal.uses", Rows.laid_veilstone_normal_uses), ("unicode/utf8.first", Rows.laid_unicode_utf8_first)]
theorem qK_ : Kids Tryz.prog (· < Tryz.prog.types.size) := kids_rows (by kernel_rfl) (by kernel_rfl)
theorem full : ∀ t e, t < Tryz.prog.types.size → Tryz.prog.underlying t = some (.slice e) → 0 < Tryz.prog.cellsOf e := slices_full_of _ (by kernel_rfl)
theorem jO_ : Tryz.prog.types.size = 292 := by kernel_rfl
theorem tysX : Tys Tryz.prog 3 4 9 25 132 130 134 75 47 22 where
  i := Y_
  b := Tryz.underlying4
  s := bo_
  ss := gE_
  c := ⟨_, Tryz.underlying132, rfl⟩
  cs := Tryz.underlying130
  a := ⟨_, Tryz.underlying134, rfl⟩
  axs := Tryz.underlying75
  p := ⟨_, eS_, rfl⟩
  ps := Tryz.underlying22
  ci := by kernel_rfl
  cb := by kernel_rfl
  cs1 := by kernel_rfl
  css := by kernel_rfl
  cc := by kernel_rfl
  ccs := by kernel_rfl
  ca := by kernel_rfl
  cp := by kernel_rfl
  bs := by kernel_rfl
  bc := by kernel_rfl
  ba := by kernel_rfl
  bp := by kernel_rfl
theorem iR_ {W : World} (h : laidMetH Tryz.prog fw_ W) : ∃ T fz, W.heap[3]? = some (.cells (eD_ (H := Unit) Rows.laid_veilstone_terms_needs).toArray T fz) := by
  rw [MakeChecks.laidMetH_plain _ _ _ (by kernel_rfl)] at h
  exact hM_ qK_ (name := "veilstone/terms.needs") h (by simp [fw_]) (g := 3) (t := 219) (by kernel_rfl) (by kernel_rfl) (by rw [jO_]; decide) (m := 4) (by kernel_rfl)
theorem jn_ {W : World} (h : laidMetH Tryz.prog fw_ W) : ∃ T fz, W.heap[1]? = some (.cells (eD_ (H := Unit) Rows.laid_veilstone_terms_uses).toArray T fz) := by
  rw [MakeChecks.laidMetH_plain _ _ _ (by kernel_rfl)] at h
  exact hM_ qK_ (name := "veilstone/terms.uses") h (by simp [fw_]) (g := 1) (t := 161) (by kernel_rfl) (by kernel_rfl) (by rw [jO_]; decide) (m := 4) (by kernel_rfl)
theorem iS_ {W : World} (h : laidMetH Tryz.prog fw_ W) : ∃ T fz, W.heap[0]? = some (.cells (eD_ (H := Unit) Rows.laid_veilstone_normal_uses).toArray T fz) := by
  rw [MakeChecks.laidMetH_plain _ _ _ (by kernel_rfl)] at h
  exact hM_ qK_ (name := "veilstone/normal.uses") h (by simp [fw_]) (g := 0) (t := 153) (by kernel_rfl) (by kernel_rfl) (by rw [jO_]; decide) (m := 4) (by kernel_rfl)
theorem fG_ {W : World} (h : laidMetH Tryz.prog fw_ W) : ∃ T fz, W.heap[6]? = some (.cells (eD_ (H := Unit) Rows.laid_internal_strconv_uint64pow10).toArray T fz) := by
  rw [MakeChecks.laidMetH_plain _ _ _ (by kernel_rfl)] at h
  exact hM_ qK_ (name := "internal/strconv.uint64pow10") h (by simp [fw_]) (g := 6) (t := 275) (by kernel_rfl) (by kernel_rfl) (by rw [jO_]; decide) (m := 4) (by kernel_rfl)
theorem li_ {W : World} {g : Nat} {l : List Value} {d : List Value} (h : ∃ T fz, W.heap[g]? = some (.cells l.toArray T fz)) (e : l = d) : ca_ (vw W) (some ⟨g, 0, none⟩) d := by
  obtain ⟨T, fz, h⟩ := h
  subst e
  exact .inr ⟨g, 0, _, T, fz, rfl, (Array.getElem?_eq_some_iff.1 h).1, h, fun j x hj => by rw [Nat.zero_add]; simpa using hj⟩
theorem oo_ {W : World} (h : laidMetH Tryz.prog fw_ W) : dB_.p (vw W) := by
  refine ⟨li_ (iR_ h) (by kernel_rfl), li_ (jn_ h) (by kernel_rfl), li_ (iS_ h) (by kernel_rfl), ?_⟩
  obtain ⟨T, fz, h2⟩ := fG_ h
  refine ⟨trivial, (Array.getElem?_eq_some_iff.1 h2).1, T, fz, ?_⟩
  rw [show (Lib.pow10Tab.map fun z => Value.int .u64 z) = eD_ (H := Unit) Rows.laid_internal_strconv_uint64pow10 by kernel_rfl]
  exact h2
theorem rz_ {W : World} (h : laidMetH Tryz.prog fw_ W) : gB_.p (vw W) := (oo_ h).2.2.1
end Go.Proofs.YtpdbbglpbngeiaaGreatDoor
namespace Go.Proofs.YtpdbbglpbngeiaaGreatDoor
open Go Go.Sx Go.Proofs
attribute [local irreducible] Code.wp wpList wpAnyH
open Go.Vs
theorem kR_ (a : Int) : ∀ (s pre : List Pc), do_ (ofs a 0 (pre ++ s)) pre.length s = s.filter fun x => decide (x.frm ≠ a)
  | [], _ => rfl
  | x :: r, pre => by
    have ih := kR_ a r (pre ++ [x])
    rw [List.append_assoc, List.length_append, List.singleton_append, List.length_singleton] at ih
    rw [do_]
    by_cases h : x.frm = a
    · rw [if_pos (by have := oz_ (i := 0) (j := pre.length) (l := pre ++ x :: r) (p := x) (by simp) h; simpa using this), ih, List.filter_cons_of_neg (by simpa using h)]
    · rw [if_neg (fun q => by
        obtain ⟨j, y, e, h1, h2⟩ := qF_ q
        have e2 : j = pre.length := by omega
        subst e2
        simp at h1
        subst h1
        exact h h2), ih, List.filter_cons_of_pos (by simpa using h)]
theorem oA_ (a : Int) : ∀ (p : List Pc) (i : Nat), (p.filter fun x => decide (x.frm ≠ a)).length + (ofs a i p).length = p.length
  | [], _ => rfl
  | x :: r, i => by
    have ih := oA_ a r (i + 1)
    rw [ofs]
    by_cases h : x.frm = a
    · rw [if_pos h, List.filter_cons_of_neg (by simpa using h), List.length_cons, List.length_cons]; omega
    · rw [if_neg h, List.filter_cons_of_pos (by simpa using h), List.length_cons, List.length_cons]; omega
theorem hy_ (a : Int) : ∀ (p : List Pc) (i : Nat), (ofs a i p).Pairwise (· < ·)
  | [], _ => List.Pairwise.nil
  | x :: r, i => by
    rw [ofs]
    split
    · refine List.pairwise_cons.2 ⟨fun v hv => ?_, hy_ a r (i + 1)⟩
      obtain ⟨j, q, e, _, _⟩ := lm_ hv
      omega
    · exact hy_ a r (i + 1)
theorem qE_ (a : Int) (p : List Pc) : pR_ p.length (ofs a 0 p) := ⟨fun v hv => by
  obtain ⟨j, q, e, h, _⟩ := qF_ hv
  have := (List.getElem?_eq_some_iff.1 h).1
  omega, hy_ a p 0⟩
theorem ks_ {p q : List Pc} {bu bu' : Int} {c d : Cl} {g : Int} (hb : bu ≤ bu') (hb2 : bu' ≤ 1073741824) (h : ∀ x ∈ q, x ∈ p) (hl : q.length ≤ p.length) (hp : dj_ p bu c 0) (hq : dj_ q bu' d g) : g = 0 ∧ ∀ y ∈ d.facts, y ∈ c.facts := by
  obtain ⟨h1, h2, _, _, _, h4⟩ := hp.good
  have h5 : cT_ p (atS p) (min bu' 65536).toNat (some c.facts) := ⟨h4.1, h4.2.1, Nat.le_trans h4.2.2 (by omega)⟩
  rcases oL_ hq (ob_ h1 hl h) (by omega) hb2 with ⟨g1, _, g3⟩ | ⟨_, _, g3⟩
  · obtain ⟨M, e, hM⟩ := cT_.less (fa_.of h) h5 g3
    obtain rfl := Option.some.inj e
    exact ⟨g1, hM⟩
  · obtain ⟨M, e, _⟩ := cT_.less (fa_.of h) h5 g3
    cases e
theorem oV_ {p : List Pc} {w : Wk} {e : Int} (h : cS_ p 3000 w e) (hc : bD_ p = 0) (he : e ≠ 0) : e = 3 := by
  obtain ⟨c, h, _, _⟩ := h
  unfold dj_ at h
  rw [if_neg (by simp [hc]), if_neg (by omega)] at h
  rcases h with ⟨h1, _⟩ | ⟨_, h2, _⟩
  · exact absurd h1 he
  · rw [h2, if_pos (by decide)]
structure AxS (p : List Pc) (a : Int) (w y : Wk) (gone : List Fc) (g : Int) : Prop where
  g0 : g = 0
  len : y.ps.length + (ofs a 0 p).length = p.length
  gn : ∀ z ∈ gone, z ∉ y.cl.facts ∧ z ∈ w.cl.facts
  yw : ∀ z ∈ y.cl.facts, z ∈ w.cl.facts
  cnt : gone.length + y.cl.facts.length = w.cl.facts.length
  all : dj_ y.ps 1073741824 y.cl 0
  sub : ∀ z ∈ y.ps, z ∈ p
theorem st_ {p : List Pc} {a : Int} {w y : Wk} {gone : List Fc} {g : Int} (hS : cS_ p 3000 w 0) (hR : fW_ w (ofs a 0 p) 1073741824 y gone g) : AxS p a w y gone g := by
  obtain ⟨s1, _, s3⟩ := hS.good
  have hR' := hR
  unfold fW_ at hR'
  rw [if_neg (fun z => z ⟨by rw [s1]; exact qE_ a p, by decide, by decide⟩), s1] at hR'
  obtain ⟨r1, r2⟩ := hR'
  have hg : g = 0 := by
    obtain ⟨c, c1, _, _⟩ := r1
    exact (ks_ (by decide) (by decide) (fc_ _ _ _) (fd_ _ _ _) s3 c1).1
  subst hg
  rw [if_pos rfl] at r2
  obtain ⟨d1, _, d3⟩ := r1.good
  have hyw := (ks_ (by decide) (by decide) (fc_ _ _ _) (fd_ _ _ _) s3 d3).2
  have hk := kR_ a p []
  have hc := oA_ a p 0
  rw [List.nil_append, List.length_nil] at hk
  refine ⟨rfl, by rw [d1, hk]; exact hc, fun z hz => ?_, hyw, ?_, dj_.sub' r1, fun z hz => fc_ _ _ _ z (d1 ▸ hz)⟩
  · rw [r2, nh_] at hz; exact ⟨hz.2, hz.1⟩
  · rw [r2]; exact lG_ s3.srt.nodup d3.srt.nodup hyw
set_option maxHeartbeats 2000000 in
theorem na_ (l : List Ax) (ad : Option Addr) (cap : Nat) (at' : Int) (hcap : l.length ≤ cap ∧ cap ≤ 2199023255488) (hok : ∀ x ∈ l, x.ok) {p : List Pc} {er : Int} (hP : bn_ l = (p, er)) : Tri Tryz.prog 13 #[.slice ad (List.length l) cap, .int .i64 at'] [] [no_ ad l, dB_, gB_] (fun _ : Unit => .bool true) (fun _ => []) (fun _ => []) := by
 refine M_ Tryz.func13 rfl rfl Tryz.ntmps13 rfl fun v0 => ?_
 refine f_ (c_ (a_ (g_ rfl) rfl (d_ (b_ rfl (f_ (f_ (c_ (Q_ (qj_) rfl W_ (fun v _ h => by exact ⟨h.2.2.1, trivial⟩) rfl fun _ => ?_))))))))
 refine a_ (bG_ rfl) rfl (d_ (b_ rfl (p_ rfl (A_ (b_ rfl (f_ (f_ (c_ (a_ (h_ rfl) rfl ?_)))))))))
 refine Q_ (ng_ l ad cap 7 hcap hok) rfl W_ (fun v _ h => by exact ⟨h.1, trivial⟩) rfl fun ⟨rf, hr⟩ => ?_
 dsimp only
 refine a_ (bG_ rfl) rfl (a_ (h_ rfl) rfl ?_)
 cases rf
 ·
  refine t_ rfl rfl rfl rfl (t_ rfl rfl rfl rfl (t_ rfl rfl rfl rfl (a_ (R_ rfl rfl) rfl (d_ (b_ rfl (n_ rfl (f_ (c_ (a_ (g_ rfl) rfl ?_)))))))))
  refine d_ (b_ rfl (B_ ?_))
  exact as_ jv_ () rfl W_ (fun _ _ _ => trivial)
 ·
  have hl8 : l.length ≤ 8 := by have := hr rfl; omega
  obtain ⟨hPc, hPl, hPs⟩ := rU_ hl8 hok hP
  have hp : p.length ≤ 1099511627744 := by omega
  have hbig : ∀ x ∈ p, x.big := fun x hx => sm_big (hPs x hx)
  refine o_ rfl rfl (a_ (h_ rfl) rfl (o_ rfl rfl (a_ (ah_ cs_ rfl) rfl (o_ rfl rfl (x_ (aA_ rfl rfl) rfl fun r1 hr1 => ?_)))))
  refine a_ (N_ rfl rfl) rfl (d_ (b_ rfl ?_))
  cases r1
  ·
   replace hr1 := ne_of_beq_false hr1
   obtain ⟨ix, hixl, hie, hi1, hi2⟩ := rx_ at' (n := l.length) (by omega) (by omega)
   refine p_ rfl (A_ (b_ rfl (f_ (c_ (a_ (h_ rfl) rfl (Q_ (qy_ l ad cap hcap hok hP) rfl W_ (fun v _ h => by exact ⟨h.1, h.2.1, trivial⟩) rfl fun ⟨⟨pad, pcap⟩, hpd1, hpd2⟩ => ?_))))))
   dsimp only
   refine a_ (h_ rfl) rfl (a_ (ae_ rfl rfl) rfl (a_ (ae_ rfl rfl) rfl (a_ (g_ rfl) rfl (a_ (g_ rfl) rfl (d_ (b_ rfl (f_ (f_ (c_ ?_)))))))))
   refine a_ (h_ rfl) rfl (x_ (bR_ rfl rfl) rfl fun r2 hr2 => ?_)
   refine a_ (h_ rfl) rfl ?_
   cases r2
   ·
    replace hr2 := bc_ hr2
    refine o_ rfl rfl (a_ (h_ rfl) rfl (o_ rfl rfl (Q_ (sh_ p pad pcap (by omega) hbig) rfl W_ (fun v _ h => by exact ⟨h.1, trivial⟩) rfl fun ⟨sb, hsb⟩ => ?_)))
    dsimp only
    refine o_ rfl rfl (a_ (bG_ rfl) rfl (a_ (N_ rfl rfl) rfl (d_ (b_ rfl ?_))))
    cases sb
    ·
     refine n_ rfl (f_ (c_ (a_ (g_ rfl) rfl (d_ (b_ rfl (B_ ?_))))))
     exact as_ jv_ () rfl W_ (fun _ _ _ => trivial)
    ·
     obtain ⟨hl40, hsm⟩ := hsb rfl
     refine p_ rfl (A_ (b_ rfl (f_ (c_ (a_ (h_ rfl) rfl (Q_ (hO_ p pad pcap 3000 hsm hpd1 (by omega)) rfl W_ (fun v _ h => by exact ⟨h.1, h.2.2.2.1, trivial⟩) rfl fun ⟨⟨w, e1⟩, hS⟩ => ?_))))))
     dsimp only
     dsimp only at hS hpd1
     have hSk := hS.ok
     have hSl := hS.len
     have hSm := hS.sm hsm
     refine a_ (h_ rfl) rfl (a_ (ae_ rfl rfl) rfl (a_ (ae_ rfl rfl) rfl (al_ cN_ rfl fun b1 => ?_)))
     refine Z_ 0 am_ rfl rfl rfl rfl rfl rfl (a_ (g_ rfl) rfl (d_ (b_ rfl (f_ (f_ (c_ (a_ (h_ rfl) rfl (x_ (bR_ rfl rfl) rfl fun r3 hr3 => ?_))))))))
     refine d_ (b_ rfl ?_)
     cases r3
     ·
      replace hr3 := bc_ hr3
      have he1 : e1 = 0 := hr3
      subst he1
      refine p_ rfl (A_ (b_ rfl (f_ (c_ (a_ (h_ rfl) rfl (a_ (h_ rfl) rfl (a_ (lc_ Y_ Tryz.underlying45 rfl rfl) rfl (a_ (h_ rfl) rfl (a_ (ah_ cs_ rfl) rfl ?_)))))))))
      refine a_ (lc_ Y_ Tryz.underlying45 rfl (sC_ (by omega) (by omega))) rfl (a_ (pS_ rfl rfl (by omega) (sC_ hi1 (by omega))) rfl (a_ (lc_ Tryz.underlying45 Y_ rfl rfl) rfl (Q_ (of_c p pad pcap (IntKind.wrap .i64 ((IntKind.wrap .u64 at').tmod (List.length l : Int))) (by omega)) rfl W_ (fun v _ h => by exact ⟨h.2.2.2.1, trivial⟩) rfl fun ⟨⟨oad, ocap⟩, hof1, hof2⟩ => ?_)))
      dsimp only
      have hofl := ln_ (IntKind.wrap .i64 ((IntKind.wrap .u64 at').tmod (List.length l : Int))) p 0
      refine a_ (g_ rfl) rfl (d_ (b_ rfl (f_ (c_ (a_ (L_ 0 bm_ am_ rfl rfl rfl) rfl (a_ (h_ rfl) rfl (Q_ (jx_ w (ofs (IntKind.wrap .i64 ((IntKind.wrap .u64 at').tmod (List.length l : Int))) 0 p) oad ocap 1073741824 hSm hSk.al hSk.az (by omega) (by omega) (by omega)) rfl W_ (fun v _ h => by exact ⟨h.2.1, h.2.2.1, h.2.2.2.1, h.1, h.2.2.2.2.2.2.2.1, trivial⟩) rfl fun ⟨⟨yw, gone, gad, gcp, g⟩, hR, hRk⟩ => ?_)))))))
      dsimp only
      dsimp only at hR hRk
      have hRo := hR.ok
      have hX := st_ hS hR
      have hXl := hX.len
      have hXc := hX.cnt
      refine a_ (h_ rfl) rfl (a_ (ae_ rfl rfl) rfl (a_ (ae_ rfl rfl) rfl (a_ (ae_ rfl rfl) rfl (al_ cN_ rfl fun b2 => ?_))))
      refine Z_ 0 am_ rfl rfl rfl rfl rfl rfl (a_ (g_ rfl) rfl (a_ (g_ rfl) rfl (d_ (b_ rfl (f_ (f_ (c_ (a_ (h_ rfl) rfl (x_ (bR_ rfl rfl) rfl fun r4 hr4 => ?_)))))))))
      refine a_ (h_ rfl) rfl ?_
      cases r4
      ·
       replace hr4 := bc_ hr4
       refine o_ rfl rfl (a_ (j_ aR_ rfl rfl rfl bU_) rfl (o_ rfl rfl (a_ (q_ 0 dG_ rfl rfl rfl) rfl (o_ rfl rfl (a_ (ah_ G_ rfl) rfl (o_ rfl rfl (a_ (h_ rfl) rfl (o_ rfl rfl (a_ (ah_ G_ rfl) rfl ?_)))))))))
       refine o_ rfl rfl (a_ (h_ rfl) rfl (o_ rfl rfl (a_ (ah_ ct_ rfl) rfl (o_ rfl rfl (a_ (V_ rfl rfl rfl (aq_ (by omega) (by omega))) rfl (o_ rfl rfl (x_ (bR_ rfl rfl) rfl fun r5 hr5 => ?_)))))))
       refine a_ (N_ rfl rfl) rfl (d_ (b_ rfl ?_))
       cases r5
       ·
        replace hr5 := bc_ hr5
        refine p_ rfl (A_ (b_ rfl (f_ (f_ (c_ (a_ (h_ rfl) rfl (a_ (ah_ aj_ rfl) rfl (a_ (h_ rfl) rfl (d_ ?_)))))))))
        refine b_ rfl (S_ ?_)
        refine aV_ (ι := {y : Nat // y ≤ List.length gone}) (fun y => [(4, .bool false), (7, zp_ b1 0), (10, zp_ b2 0), (11, .slice gad (List.length gone) gcp), (77, .slice gad (List.length gone) gcp), (78, .int .i64 (List.length gone : Int)), (79, .int .i64 (y.1 : Int))]) (fun y => ((b2, .cells #[.slice (Wk.pad yw) (List.length (Wk.ps yw)) (Wk.pcap yw), .slice (Cl.aad (Wk.cl yw)) (List.length (Cl.atoms (Wk.cl yw))) (Cl.acap (Wk.cl yw)), .slice (Cl.fad (Wk.cl yw)) (List.length (Cl.facts (Wk.cl yw))) (Cl.fcap (Wk.cl yw))] 50 (0, 0)) :: ((b1, .cells #[.slice (Wk.pad w) (List.length (Wk.ps w)) (Wk.pcap w), .slice (Cl.aad (Wk.cl w)) (List.length (Cl.atoms (Wk.cl w))) (Cl.acap (Wk.cl w)), .slice (Cl.fad (Wk.cl w)) (List.length (Cl.facts (Wk.cl w))) (Cl.fcap (Wk.cl w))] 50 (0, 0)) :: []))) (fun y => [aS_ (Wk.pad yw) (List.flatMap Pc.cells (Wk.ps yw)), aS_ (Cl.aad (Wk.cl yw)) (List.flatMap bg_ (Cl.atoms (Wk.cl yw))), aS_ (Cl.fad (Wk.cl yw)) (List.flatMap Fc.cells (Cl.facts (Wk.cl yw))), aS_ gad (List.flatMap Fc.cells gone), aS_ oad (List.flatMap iz_ (ofs (IntKind.wrap .i64 ((IntKind.wrap .u64 at').tmod (List.length l : Int))) 0 p)), aS_ (Wk.pad w) (List.flatMap Pc.cells (Wk.ps w)), aS_ (Cl.aad (Wk.cl w)) (List.flatMap bg_ (Cl.atoms (Wk.cl w))), aS_ (Cl.fad (Wk.cl w)) (List.flatMap Fc.cells (Cl.facts (Wk.cl w))), aS_ pad (List.flatMap Pc.cells p), no_ ad l, dB_, gB_]) (fun y => List.length gone - y.1) ⟨(0 : Nat), by simp⟩ ⟨rfl, rfl, rfl, rfl, rfl, rfl, rfl, trivial⟩ (l_ i_ i_) (fun _ _ h => h) ?_
        rintro ⟨i, hi_i⟩
        dsimp only at hi_i ⊢
        refine f_ (c_ (x_ (az_ rfl rfl) rfl fun r6 hr6 => ?_))
        refine d_ (b_ rfl (f_ ?_))
        cases r6
        ·
         replace hr6 := of_decide_eq_false hr6
         refine p_ rfl (aD_ rfl (b_ rfl (f_ (f_ (c_ (a_ (j_ aR_ rfl rfl rfl ay_) rfl (a_ (j_ bf_ rfl rfl rfl cu_) rfl (a_ (q_ 0 bX_ rfl rfl rfl) rfl (a_ (ah_ aj_ rfl) rfl ?_)))))))))
         refine a_ (h_ rfl) rfl (d_ (b_ rfl (S_ ?_)))
         refine aV_ (ι := {y : Nat // y ≤ List.length (Cl.facts (Wk.cl yw))}) (fun y => [(4, .bool false), (7, zp_ b1 0), (10, zp_ b2 0), (11, .slice gad (List.length gone) gcp), (77, .slice gad (List.length gone) gcp), (78, .int .i64 (List.length gone : Int)), (79, .int .i64 (i : Int)), (99, .slice (Cl.fad (Wk.cl yw)) (List.length (Cl.facts (Wk.cl yw))) (Cl.fcap (Wk.cl yw))), (100, .int .i64 (List.length (Cl.facts (Wk.cl yw)) : Int)), (101, .int .i64 (y.1 : Int))]) (fun y => ((b2, .cells #[.slice (Wk.pad yw) (List.length (Wk.ps yw)) (Wk.pcap yw), .slice (Cl.aad (Wk.cl yw)) (List.length (Cl.atoms (Wk.cl yw))) (Cl.acap (Wk.cl yw)), .slice (Cl.fad (Wk.cl yw)) (List.length (Cl.facts (Wk.cl yw))) (Cl.fcap (Wk.cl yw))] 50 (0, 0)) :: ((b1, .cells #[.slice (Wk.pad w) (List.length (Wk.ps w)) (Wk.pcap w), .slice (Cl.aad (Wk.cl w)) (List.length (Cl.atoms (Wk.cl w))) (Cl.acap (Wk.cl w)), .slice (Cl.fad (Wk.cl w)) (List.length (Cl.facts (Wk.cl w))) (Cl.fcap (Wk.cl w))] 50 (0, 0)) :: []))) (fun y => [aS_ (Wk.pad yw) (List.flatMap Pc.cells (Wk.ps yw)), aS_ (Cl.aad (Wk.cl yw)) (List.flatMap bg_ (Cl.atoms (Wk.cl yw))), aS_ (Cl.fad (Wk.cl yw)) (List.flatMap Fc.cells (Cl.facts (Wk.cl yw))), aS_ gad (List.flatMap Fc.cells gone), aS_ oad (List.flatMap iz_ (ofs (IntKind.wrap .i64 ((IntKind.wrap .u64 at').tmod (List.length l : Int))) 0 p)), aS_ (Wk.pad w) (List.flatMap Pc.cells (Wk.ps w)), aS_ (Cl.aad (Wk.cl w)) (List.flatMap bg_ (Cl.atoms (Wk.cl w))), aS_ (Cl.fad (Wk.cl w)) (List.flatMap Fc.cells (Cl.facts (Wk.cl w))), aS_ pad (List.flatMap Pc.cells p), no_ ad l, dB_, gB_]) (fun y => List.length (Cl.facts (Wk.cl yw)) - y.1) ⟨(0 : Nat), by simp⟩ ⟨rfl, rfl, rfl, rfl, rfl, rfl, rfl, rfl, rfl, rfl, trivial⟩ (l_ i_ i_) (fun _ _ h => h) ?_
         rintro ⟨j, hi_j⟩
         dsimp only at hi_j ⊢
         refine f_ (c_ (x_ (az_ rfl rfl) rfl fun r7 hr7 => ?_))
         refine d_ (b_ rfl (f_ ?_))
         cases r7
         ·
          replace hr7 := of_decide_eq_false hr7
          refine p_ rfl (aD_ rfl (b_ rfl (f_ (c_ (a_ (h_ rfl) rfl (a_ (ah_ aj_ rfl) rfl (a_ (j_ aR_ rfl rfl rfl ay_) rfl (a_ (j_ bf_ rfl rfl rfl cu_) rfl (a_ (q_ 0 bX_ rfl rfl rfl) rfl ?_)))))))))
          refine a_ (ah_ aj_ rfl) rfl (a_ (V_ rfl rfl rfl (aq_ (by omega) (by omega))) rfl (a_ (j_ aR_ rfl rfl rfl ay_) rfl (a_ (j_ bf_ rfl rfl rfl cu_) rfl (a_ (q_ 1 bX_ rfl rfl rfl) rfl (a_ (ah_ aj_ rfl) rfl (x_ (aA_ rfl rfl) rfl fun r8 hr8 => ?_))))))
          refine a_ (h_ rfl) rfl ?_
          cases r8
          ·
           replace hr8 := ne_of_beq_false hr8
           exact absurd (by omega) hr8
          ·
           replace hr8 := eq_of_beq hr8
           refine o_ rfl rfl (a_ (L_ 0 bm_ am_ rfl rfl rfl) rfl (o_ rfl rfl (Q_ (ri_ yw (fun z hz => hsm z (hX.sub z hz)) (by omega) (by omega) (by omega)) rfl W_ (fun v _ h => by exact ⟨h.1, h.2.1, h.2.2.1, h.2.2.2.2.2.2.2.2.2.2.2.1, trivial⟩) rfl fun ⟨e9, he9⟩ => ?_)))
           dsimp only
           obtain rfl := sn_ he9 hX.all
           refine o_ rfl rfl (a_ (cb_ (aA_ rfl rfl) (show _ = Value.bool true from congrArg Value.bool (by decide))) rfl (a_ (R_ rfl rfl) rfl (a_ (g_ rfl) rfl (d_ (b_ rfl (B_ ?_))))))
           exact as_ jv_ () rfl W_ (fun _ _ _ => trivial)
         ·
          replace hr7 := of_decide_eq_true hr7
          have hlx2 : j < List.length (Cl.facts (Wk.cl yw)) := by omega
          obtain ⟨x2, hx2⟩ : ∃ e0, (Cl.facts (Wk.cl yw))[j]? = some e0 := ⟨_, List.getElem?_eq_getElem hlx2⟩
          have hmx2 : x2 ∈ (Cl.facts (Wk.cl yw)) := List.mem_of_getElem? hx2
          refine n_ rfl (A_ (b_ rfl (f_ (S_ (f_ (c_ (a_ (ak_ aj_ X_ rfl rfl (fun v _ h => aL_ (n := 6) Fc.cells_len (by decide) (by exact h.2.2.1) hx2) (by omega) (by first | omega | (simp; done))) rfl (a_ (aE_ (ad := (Cl.fad (Wk.cl yw))) (us := Fc.cells x2) au_ X_ rfl (fun v _ h => by exact h.2.2.1) (Fc.cells_len _) (an_ Fc.cells_len hx2)) rfl (al_ bt_ rfl fun b3 => ?_)))))))))
          refine Z_ 0 X_ rfl rfl rfl rfl rfl rfl (d_ (b_ rfl (f_ (c_ (a_ (j_ aR_ rfl rfl rfl ay_) rfl (a_ (j_ bf_ rfl rfl rfl cu_) rfl (a_ (q_ 2 bX_ rfl rfl rfl) rfl (a_ (L_ 0 au_ X_ rfl rfl rfl) rfl (ax_ (qX_ (Cl.facts (Wk.cl w)) (Cl.fad (Wk.cl w)) (Cl.fcap (Wk.cl w)) x2 (by omega) hS.srt) rfl W_ (fun v _ h => by exact ⟨h.2.2.2.2.2.2.2.1, trivial⟩) rfl fun r9 hr9 => ?_)))))))))
          refine a_ (bG_ rfl) rfl (d_ (b_ rfl ?_))
          cases r9
          ·
           replace hr9 := dF hr9
           exact absurd (hX.yw x2 hmx2) hr9
          ·
           replace hr9 := dT hr9
           refine p_ rfl (A_ (b_ rfl (c_ (a_ (V_ rfl rfl rfl (aq_ (by omega) (by omega))) rfl (a_ (h_ rfl) rfl (d_ (r_ rfl ?_)))))))
           exact ao_ ⟨j + 1, hlx2⟩ (by dsimp only; omega) ⟨rfl, rfl, rfl, rfl, rfl, rfl, rfl, rfl, rfl, rfl, trivial⟩ (l_ (e_ i_) (e_ i_)) (fun _ _ h => h)
        ·
         replace hr6 := of_decide_eq_true hr6
         have hlx1 : i < List.length gone := by omega
         obtain ⟨x1, hx1⟩ : ∃ e0, gone[i]? = some e0 := ⟨_, List.getElem?_eq_getElem hlx1⟩
         have hmx1 : x1 ∈ gone := List.mem_of_getElem? hx1
         refine n_ rfl (A_ (b_ rfl (f_ (S_ (f_ (c_ (a_ (ak_ aj_ X_ rfl rfl (fun v _ h => aL_ (n := 6) Fc.cells_len (by decide) (by exact h.2.2.2.1) hx1) (by omega) (by first | omega | (simp; done))) rfl (a_ (aE_ (ad := gad) (us := Fc.cells x1) au_ X_ rfl (fun v _ h => by exact h.2.2.2.1) (Fc.cells_len _) (an_ Fc.cells_len hx1)) rfl (al_ bt_ rfl fun b4 => ?_)))))))))
         refine Z_ 0 X_ rfl rfl rfl rfl rfl rfl (d_ (b_ rfl (f_ (c_ (a_ (j_ aR_ rfl rfl rfl ay_) rfl (a_ (j_ bf_ rfl rfl rfl cu_) rfl (a_ (q_ 1 bX_ rfl rfl rfl) rfl (a_ (L_ 0 au_ X_ rfl rfl rfl) rfl (ax_ (qX_ (Cl.facts (Wk.cl yw)) (Cl.fad (Wk.cl yw)) (Cl.fcap (Wk.cl yw)) x1 (by omega) hX.all.srt) rfl W_ (fun v _ h => by exact ⟨h.2.2.1, trivial⟩) rfl fun r10 hr10 => ?_)))))))))
         refine a_ (h_ rfl) rfl ?_
         cases r10
         ·
          replace hr10 := dF hr10
          refine o_ rfl rfl (a_ (j_ aR_ rfl rfl rfl ay_) rfl (o_ rfl rfl (a_ (j_ bf_ rfl rfl rfl cu_) rfl (o_ rfl rfl (a_ (q_ 2 bX_ rfl rfl rfl) rfl (o_ rfl rfl (a_ (L_ 0 au_ X_ rfl rfl rfl) rfl (o_ rfl rfl (ax_ (qX_ (Cl.facts (Wk.cl w)) (Cl.fad (Wk.cl w)) (Cl.fcap (Wk.cl w)) x1 (by omega) hS.srt) rfl W_ (fun v _ h => by exact ⟨h.2.2.2.2.2.2.2.1, trivial⟩) rfl fun r11 hr11 => ?_)))))))))
          refine o_ rfl rfl (a_ (bG_ rfl) rfl (a_ (N_ rfl rfl) rfl (d_ (b_ rfl ?_))))
          cases r11
          ·
           replace hr11 := dF hr11
           exact absurd (hX.gn x1 hmx1).2 hr11
          ·
           replace hr11 := dT hr11
           refine p_ rfl (A_ (b_ rfl (c_ (a_ (V_ rfl rfl rfl (aq_ (by omega) (by omega))) rfl (a_ (h_ rfl) rfl (d_ (r_ rfl ?_)))))))
           exact ao_ ⟨i + 1, hlx1⟩ (by dsimp only; omega) ⟨rfl, rfl, rfl, rfl, rfl, rfl, rfl, trivial⟩ (l_ (e_ i_) (e_ i_)) (fun _ _ h => h)
         ·
          replace hr10 := dT hr10
          exact absurd hr10 (hX.gn x1 hmx1).1
       ·
        replace hr5 := bb_ hr5
        exact absurd (by omega) hr5
      ·
       replace hr4 := bb_ hr4
       exact absurd hX.g0 hr4
     ·
      replace hr3 := bb_ hr3
      refine n_ rfl (f_ (c_ (a_ (h_ rfl) rfl (x_ (aA_ rfl rfl) rfl fun r12 hr12 => ?_))))
      refine a_ (g_ rfl) rfl (d_ (b_ rfl (B_ ?_)))
      exact as_ jv_ () (E_ rfl (by rw [← hr12]; first | exact beq_iff_eq.2 (oV_ hS (hPc (by assumption)) (by assumption)) | rfl)) W_ (fun _ _ _ => trivial)
   ·
    replace hr2 := bb_ hr2
    refine t_ rfl rfl rfl rfl (t_ rfl rfl rfl rfl (t_ rfl rfl rfl rfl (a_ (R_ rfl rfl) rfl (d_ (b_ rfl (n_ rfl (f_ (c_ (a_ (g_ rfl) rfl ?_)))))))))
    refine d_ (b_ rfl (B_ ?_))
    exact as_ jv_ () rfl W_ (fun _ _ _ => trivial)
  ·
   replace hr1 := eq_of_beq hr1
   refine n_ rfl (f_ (c_ (a_ (g_ rfl) rfl (d_ (b_ rfl (B_ ?_))))))
   exact as_ jv_ () rfl W_ (fun _ _ _ => trivial)
end Go.Proofs.YtpdbbglpbngeiaaGreatDoor
