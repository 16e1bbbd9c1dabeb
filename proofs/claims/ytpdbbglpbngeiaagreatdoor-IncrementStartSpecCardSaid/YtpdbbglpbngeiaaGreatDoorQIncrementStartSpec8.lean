/-
  Part of the proof of the law IncrementStartSpec over this seat: the small logic, the data, the contracts of functions (no condition).
-/
import Derived.Test.YtpdbbglpbngeiaaGreatDoorQIncrementStartSpec7
import Derived.Test.YtpdbbglpbngeiaaGreatDoorQIncrementStartSpec4
import Derived.Test.YtpdbbglpbngeiaaGreatDoorQIncrementStartSpec5
set_option linter.unusedVariables false
set_option linter.unusedSimpArgs false
set_option linter.unusedSectionVars false
namespace Go.Proofs.YtpdbbglpbngeiaaGreatDoor
open Go Go.Sx Go.Proofs
attribute [local irreducible] Code.wp wpList wpAnyH
open Go.Vs
structure Wk where
  ps : List Pc
  pad : Option Addr
  pcap : Nat
  cl : Cl
def Wk.cells (w : Wk) : List Value := .slice w.pad w.ps.length w.pcap :: w.cl.cells
theorem Wk.cells_len (w : Wk) : w.cells.length = 3 := rfl
def Wk.val (w : Wk) : Value := .agg w.cells.toArray
def Wk.no : Wk := Wk.mk [] none 0 Cl.no
structure Wk.ok (w : Wk) : Prop where
  al : w.ps.length ≤ w.pcap
  am : w.pcap ≤ maxLen
  az : w.pad = none → w.pcap = 0
  cl : w.cl.ok
theorem Wk.no_ok : Wk.no.ok := ⟨Nat.le_refl _, by simp [Wk.no], fun _ => rfl, Cl.no_ok⟩
def Wk.row (w : Wk) : List Fct := [aC_ w.pad (List.flatMap Pc.cells w.ps), aC_ w.cl.aad (List.flatMap aM_ w.cl.atoms), aC_ w.cl.fad (List.flatMap Fc.cells w.cl.facts)]
def cV_ (p : List Pc) (bu : Int) (w : Wk) (e : Int) : Prop := ∃ c, dG_ p bu c e ∧ (e = 0 → w.ps = p ∧ w.cl = c ∧ w.ok) ∧ (e ≠ 0 → w = Wk.no)
theorem cV_.ok {p : List Pc} {bu : Int} {w : Wk} {e : Int} (h : cV_ p bu w e) : w.ok := by
  obtain ⟨c, _, h1, h2⟩ := h
  by_cases he : e = 0
  · exact (h1 he).2.2
  · rw [h2 he]; exact Wk.no_ok
theorem cV_.good {p : List Pc} {bu : Int} {w : Wk} (h : cV_ p bu w 0) : w.ps = p ∧ w.ok ∧ dG_ p bu w.cl 0 := by
  obtain ⟨c, h0, h1, _⟩ := h
  obtain ⟨q1, q2, q3⟩ := h1 rfl
  exact ⟨q1, q3, q2 ▸ h0⟩
theorem cV_.len {p : List Pc} {bu : Int} {w : Wk} {e : Int} (h : cV_ p bu w e) : w.ps.length ≤ p.length ∧ w.cl.atoms.length ≤ 3 * p.length + 2 ∧ w.cl.facts.length ≤ 65536 := by
  obtain ⟨c, h0, h1, h2⟩ := h
  by_cases he : e = 0
  · obtain ⟨q1, q2, _⟩ := h1 he
    have := h0.len
    rw [q1, q2]; exact ⟨Nat.le_refl _, this⟩
  · rw [h2 he]; simp [Wk.no, Cl.no]
theorem cV_.srt {p : List Pc} {bu : Int} {w : Wk} {e : Int} (h : cV_ p bu w e) : Srt w.cl.facts := by
  obtain ⟨c, h0, h1, h2⟩ := h
  by_cases he : e = 0
  · rw [(h1 he).2.1]; exact h0.srt
  · rw [h2 he]; exact List.Pairwise.nil
section
variable {P : Program} {N : Nat} {fr : Fr} {H : Hp}
theorem dN_ {fn : Func} {t s r b n : Nat} {ty T : TypeId} {us : List Value} {u u2 : Value} (i : Nat) (hr : fn.results = #[.cell t ty, .tmp s, .tmp r]) (ha : ∀ w, (isAgg ty).run P w = .ok true w) (hs : ∀ w, (sizeOf ty).run P w = .ok n w) (hn : us.length = n) (hx : Fr.get fr t = some (zp_ b 0)) (hu : Fr.get fr s = some u) (hu2 : Fr.get fr r = some u2)
    (hi : H[i]? = some (b, .cells us.toArray T (0, 0))) (a : Act) (v : Vw) (h1 : Fr.sat N fr a) (h2 : v.sat H) : (results fn a.tmps).run P v.w = .ok (.tuple #[.agg us.toArray, u, u2]) v.w := by
  have e := h1.val t _ hx
  have e2 := h1.val s _ hu
  have e3 := h1.val r _ hu2
  have hl := dk_ (t := ty) (w := v.w) (b := b) (off := 0) ha hs hn (fun j y hj => by rw [Nat.zero_add, ft_ h2 hi]; simpa using hj)
  simp [results, hr, e, e2, e3, asAddr, hl]
end
theorem eo_ : kL_ Tryz.prog 50 [(0, 1), (1, 2)] [.slice none 0 0, .slice none 0 0, .slice none 0 0] := ⟨_, cB_, aA_, fun w => by simp [bC_, Z_]⟩
theorem jD_ (bu : Int) : Fn0 Tryz.prog 80 #[.int .i64 bu] (.bool (decide (0 ≤ bu ∧ bu ≤ 1073741824))) := by
  refine R_ Tryz.func80 rfl rfl Tryz.ntmps80 rfl fun v0 => ?_
  refine h_ (c_ (a_ (g_ rfl) rfl (d_ (b_ rfl (h_ (c_ (a_ (e_ rfl) rfl (x_ (cC_ rfl rfl) rfl fun r1 hr1 => ?_))))))))
  refine a_ (e_ rfl) rfl ?_
  cases r1
  · skip
    replace hr1 := of_decide_eq_false hr1
    refine r_ rfl rfl rfl rfl (r_ rfl rfl rfl rfl (a_ (A_ rfl rfl) rfl (a_ (g_ rfl) rfl (d_ (b_ rfl (E_ ?_))))))
    exact as_ Tryz.results80 () (y_ rfl (by simp; omega)) I_ (fun _ _ _ => trivial)
  · skip
    replace hr1 := of_decide_eq_true hr1
    refine p_ rfl rfl (a_ (e_ rfl) rfl (p_ rfl rfl (x_ (bS_ rfl rfl) rfl fun r2 hr2 => ?_)))
    refine a_ (G_ rfl rfl) rfl (a_ (g_ rfl) rfl (d_ (b_ rfl (E_ ?_))))
    exact as_ Tryz.results80 () (y_ rfl (by rw [← hr2]; simp; omega)) I_ (fun _ _ _ => trivial)
theorem pl_ (p : List Pc) (pad : Option Addr) (pcap : Nat) (hc : p.length ≤ pcap) (hl : p.length ≤ 100000000) : Tri Tryz.prog 78 #[.slice pad (List.length p) pcap] [] [aC_ pad (List.flatMap Pc.cells p)] (fun y : {y : Option Addr × Nat // (p).length ≤ y.2 ∧ y.2 ≤ maxLen ∧ (y.1 = none → y.2 = 0)} => .slice y.1.1 (p).length y.1.2) (fun _ => []) (fun y => [aC_ y.1.1 ((p).flatMap Pc.cells)]) := by
  refine R_ Tryz.func78 rfl rfl Tryz.ntmps78 rfl fun v0 => ?_
  refine h_ (c_ (a_ (g_ rfl) rfl (d_ (b_ rfl (h_ (h_ (c_ (a_ (e_ rfl) rfl (x_ (kR_ Tryz.underlying22 rfl rfl) rfl fun r1 hr1 => ?_)))))))))
  refine d_ (b_ rfl ?_)
  cases r1
  · skip
    replace hr1 := of_decide_eq_false hr1
    refine v_ rfl (B_ (b_ rfl (h_ (c_ (cW_ H_ L_ rfl fun b1 => ?_)))))
    refine al_ i_ (a_ (e_ rfl) rfl (aK_ (news := List.flatMap Pc.cells p) gW_ (dP_ b1 47 10) rfl rfl (fun q => absurd q (by assumption)) hc aE_ (by rw [bp_ Pc.cells 10 Pc.cells_len]) (fun v _ h => by exact h.1) (fun u hu => aN_ Pc.cells_one hu) (by simp only [maxLen]; ((try simp only [List.length_nil]); omega)) (by ((try simp only [List.length_nil]); omega)) rfl fun sv1 Hr1 hr1 => ?_))
    refine al_ List.perm_append_comm ?_
    have hq1 : aR_ 47 10 sv1 (List.length (([] : List Pc) ++ p)) (List.flatMap Pc.cells (([] : List Pc) ++ p)) Hr1 := by rw [List.length_append, List.flatMap_append]; exact hr1
    refine a_ (g_ rfl) rfl (d_ (b_ rfl (E_ (bt_ hq1 aE_ fun ad2 cp2 had2 hcad2 hmad2 hzad2 => ?_))))
    exact as_ Tryz.results78 ⟨(ad2, cp2), hcad2, hmad2, hzad2⟩ (bW_ rfl had2) I_ (fun v _ h => ⟨h.1, trivial⟩)
  · skip
    replace hr1 := of_decide_eq_true hr1
    refine u_ rfl (h_ (c_ (a_ (g_ rfl) rfl (d_ (b_ rfl (E_ (oK_ (p := List.flatMap Pc.cells p = []) (fun v _ h => by have q := h.1; rw [show pad = none by assumption] at q; exact li_ q) fun hz => ?_)))))))
    have hz2 : p = [] := List.eq_nil_of_length_eq_zero (by have := congrArg List.length hz; rw [bp_ Pc.cells 10 Pc.cells_len] at this; simp at this; omega)
    subst hz2
    exact as_ Tryz.results78 ⟨(none, 0), by simp⟩ rfl I_ (fun _ _ _ => ⟨.inl rfl, trivial⟩)
theorem hk_ (p : List Pc) (pad : Option Addr) (pcap : Nat) (bu : Int) (hsm : ∀ x ∈ p, x.sm) (hc : p.length ≤ pcap) (hp : p.length ≤ 100000000) : Tri Tryz.prog 34 #[.slice pad (List.length p) pcap, .int .i64 bu] [] [aC_ pad (List.flatMap Pc.cells p), gK_] (fun y : {y : Wk × Int // cV_ p bu y.1 y.2} => .tuple #[y.1.1.val, .int .i64 y.1.2]) (fun _ => []) (fun y => y.1.1.row) := by
  refine R_ Tryz.func34 rfl rfl Tryz.ntmps34 rfl fun v0 => ?_
  refine h_ (c_ (ao_ cB_ rfl fun b1 => ?_))
  refine a_ (g_ rfl) rfl (d_ (b_ rfl (h_ (c_ (a_ (e_ rfl) rfl (a_ (e_ rfl) rfl (V_ (qD_ p pad pcap bu hsm (by omega)) rfl I_ (fun v _ h => by exact ⟨h.1, h.2.1, trivial⟩) rfl fun ⟨⟨c1, e1⟩, hA1⟩ => ?_)))))))
  dsimp only
  dsimp only at hA1
  refine a_ (e_ rfl) rfl (a_ (am_ rfl rfl) rfl (a_ (am_ rfl rfl) rfl (ao_ dq_ rfl fun b2 => ?_)))
  refine T_ 0 Z_ rfl rfl rfl rfl rfl rfl (a_ (g_ rfl) rfl (d_ (b_ rfl (h_ (h_ (c_ (a_ (e_ rfl) rfl (x_ (bN_ rfl rfl) rfl fun r1 hr1 => ?_))))))))
  refine d_ (b_ rfl ?_)
  cases r1
  · skip
    replace hr1 := bb_ hr1
    refine v_ rfl (B_ (b_ rfl (h_ ?_)))
    refine aS_ ((b2, .cells (Cl.cells c1).toArray 28 (0, 0)) :: []) (by kernel_rfl) ?_
    refine ae_ 4 [0, 2] (by kernel_rfl) (fun _ a b => ⟨Vw.sat.sub (a.perm i_), b⟩) (o_ rfl (e_ rfl) rfl (o_ rfl (X_ 0 aU_ Z_ rfl rfl rfl) rfl (ad_ (W_ 1 rfl (by kernel_rfl) (V_ (pl_ p pad pcap (by omega) (by omega)) rfl I_ (fun v _ h => by exact ⟨h.2.2.1, trivial⟩) rfl fun ⟨⟨cad, ccap⟩, hcl1, hcl2, hcl3⟩ => ?_)))))
    dsimp only
    dsimp only at hcl1 hcl2 hcl3
    refine d_ (w_ rfl (N_ (fun _ a b => ⟨Vw.sat.sub (a.perm i_), b.2⟩) (ae_ 2 [3] (by kernel_rfl) (fun _ a b => ⟨Vw.sat.sub (a.perm i_), b.2⟩) (o_ rfl (av_ eo_ rfl rfl) rfl (ad_ (W_ 4 rfl (by kernel_rfl) (T_ 1 an_ rfl rfl rfl rfl rfl rfl (d_ (w_ rfl ?_)))))))))
    refine N_ (fun _ a b => ⟨Vw.sat.sub (a.perm i_), b.2⟩) (ae_ 0 [5] (by kernel_rfl) (fun _ a b => ⟨Vw.sat.sub (a.perm i_), b.2⟩) (o_ rfl (g_ rfl) rfl (ad_ (ab_ (by kernel_rfl) (b_ rfl (E_ ?_))))))
    exact dn_ ⟨((Wk.mk p cad ccap c1), 0), ⟨c1, (by assumption : e1 = 0) ▸ hA1, fun _ => ⟨rfl, rfl, ⟨hcl1, hcl2, hcl3, hA1.ok⟩⟩, fun q => absurd rfl q⟩⟩ (fun aa v h1 h2 => db_ (us := Wk.cells (Wk.mk p cad ccap c1)) 1 Tryz.results34 bf_ an_ rfl rfl rfl rfl aa v h1 h2) I_ (fun v _ h => by exact ⟨h.1, h.2.1, h.2.2.1, trivial⟩)
  · skip
    replace hr1 := ba_ hr1
    refine u_ rfl (h_ (c_ (a_ (av_ eo_ rfl rfl) rfl (a_ (e_ rfl) rfl (T_ 1 an_ rfl rfl rfl rfl rfl rfl (a_ (g_ rfl) rfl (d_ (b_ rfl (E_ ?_)))))))))
    exact dn_ ⟨((Wk.mk [] none 0 (Cl.mk [] none 0 [] none 0)), e1), ⟨c1, hA1, fun q => absurd q (by assumption), fun _ => rfl⟩⟩ (fun aa v h1 h2 => db_ (us := Wk.cells (Wk.mk [] none 0 (Cl.mk [] none 0 [] none 0))) 1 Tryz.results34 bf_ an_ rfl rfl rfl rfl aa v h1 h2) I_ (fun v _ h => by exact ⟨.inl rfl, .inl rfl, .inl rfl, trivial⟩)
theorem iR_ {K : Type} [DecidableEq K] {l q : List K} {i : Nat} {x : K} (h : ∀ f, f ∈ q ↔ f ∈ l.take i) (hx : l[i]? = some x) : ∀ f, f ∈ (if x ∈ q then q else q ++ [x]) ↔ f ∈ l.take (i + 1) := fun f => by
  rw [List.take_add_one, hx, Option.toList_some, List.mem_append, List.mem_singleton, ← h]
  split
  · rename_i hm
    exact ⟨.inl, fun q => q.elim id fun e => e ▸ hm⟩
  · rw [List.mem_append, List.mem_singleton]
def bQ_ (l k : List Fc) : List Fc := l.filter fun f => !decide (f ∈ k)
theorem hB_ {l k : List Fc} {i : Nat} {x : Fc} (h : l[i]? = some x) : bQ_ (l.take (i + 1)) k = bQ_ (l.take i) k ++ (if x ∈ k then [] else [x]) := by
  unfold bQ_
  rw [gH_ h]
  by_cases hx : x ∈ k <;> simp [hx]
theorem ed_ {l k q : List Fc} (h : ∀ f, f ∈ q ↔ f ∈ k) : bQ_ l q = bQ_ l k := by
  unfold bQ_; congr 1; funext f; rw [Bool.eq_iff_iff]; simp [h]
theorem gq_ (l k : List Fc) : (bQ_ l k).length ≤ l.length := List.length_filter_le _ _
theorem jn_ (c : Cl) (hf : c.facts.length ≤ 1000000000) : Tri Tryz.prog 82 #[Cl.val c] [] [aC_ (Cl.fad c) (List.flatMap Fc.cells (Cl.facts c))] (fun y : {y : Nat × Array MapEntry × Nat × List Fc // SetE Fc.val y.2.1 y.2.2.2 ∧ ∀ f, f ∈ y.2.2.2 ↔ f ∈ c.facts} => .map (some y.1.1)) (fun y => [(y.1.1, .map y.1.2.1 y.1.2.2.1)]) (fun _ => []) := by
  refine R_ Tryz.func82 rfl rfl Tryz.ntmps82 rfl fun v0 => ?_
  refine h_ (c_ (bn_ rfl rfl fun b1 => ?_))
  refine a_ (g_ rfl) rfl (d_ (b_ rfl (h_ (c_ (a_ (l_ aB_ rfl rfl rfl bs_) rfl (a_ (t_ 0 bB_ rfl rfl rfl) rfl (a_ (ak_ F_ rfl) rfl (mk_ Tryz.runUnderlying122 rfl rfl fun b2 => ?_))))))))
  refine a_ (g_ rfl) rfl (d_ (b_ rfl (h_ (h_ (c_ (a_ (l_ aB_ rfl rfl rfl bs_) rfl (a_ (t_ 1 bB_ rfl rfl rfl) rfl (a_ (ak_ F_ rfl) rfl (a_ (e_ rfl) rfl ?_)))))))))
  refine d_ (b_ rfl (Q_ ?_))
  refine aG_ (ι := {y : Nat × Array MapEntry × Nat × List Fc // y.1 ≤ List.length (Cl.facts c) ∧ SetE Fc.val y.2.1 y.2.2.2 ∧ (∀ f, f ∈ y.2.2.2 ↔ f ∈ List.take y.1 (Cl.facts c))}) (fun y => [(1, zp_ b1 0), (2, .map (some b2)), (10, .slice (Cl.fad c) (List.length (Cl.facts c)) (Cl.fcap c)), (11, .int .i64 (List.length (Cl.facts c) : Int)), (12, .int .i64 (y.1.1 : Int))]) (fun y => ((b2, .map y.1.2.1 y.1.2.2.1) :: ((b1, .cells (Cl.cells c).toArray 28 (0, 0)) :: []))) (fun y => [aC_ (Cl.fad c) (List.flatMap Fc.cells (Cl.facts c))]) (fun y => List.length (Cl.facts c) - y.1.1) ⟨((0 : Nat), #[], 0, ([] : List Fc)), by simp, SetE.nil, by simp⟩ ⟨rfl, rfl, rfl, rfl, rfl, trivial⟩ (m_ i_ i_) (fun _ _ h => h) ?_
  rintro ⟨⟨i, es, ce, q⟩, hi, hE, hq⟩
  dsimp only at hi hE hq ⊢
  refine h_ (c_ (x_ (ax_ rfl rfl) rfl fun r1 hr1 => ?_))
  refine d_ (b_ rfl (h_ ?_))
  cases r1
  · skip
    replace hr1 := of_decide_eq_false hr1
    refine v_ rfl (at_ rfl (b_ rfl (h_ (c_ (a_ (e_ rfl) rfl (a_ (g_ rfl) rfl (d_ (b_ rfl (E_ ?_)))))))))
    rw [List.take_of_length_le (by omega)] at hq
    exact as_ Tryz.results82 ⟨(b2, es, ce, q), hE, hq⟩ rfl i_ (fun _ _ _ => trivial)
  · skip
    replace hr1 := of_decide_eq_true hr1
    have hlx1 : i < List.length (Cl.facts c) := by omega
    obtain ⟨x1, hx1⟩ : ∃ e0, (Cl.facts c)[i]? = some e0 := ⟨_, List.getElem?_eq_getElem hlx1⟩
    have hmx1 : x1 ∈ (Cl.facts c) := List.mem_of_getElem? hx1
    refine u_ rfl (B_ (b_ rfl (h_ (Q_ (h_ (c_ (a_ (aa_ F_ D_ rfl rfl (fun v _ h => az_ (n := 6) Fc.cells_len (by decide) (by exact h.1) hx1) (by omega) (by first | omega | (simp; done))) rfl (a_ (aT_ (ad := (Cl.fad c)) (us := Fc.cells x1) ah_ D_ rfl (fun v _ h => by exact h.1) (Fc.cells_len _) (ac_ Fc.cells_len hx1)) rfl (ao_ ag_ rfl fun b3 => ?_)))))))))
    refine T_ 0 D_ rfl rfl rfl rfl rfl rfl (d_ (b_ rfl (c_ (a_ (e_ rfl) rfl (a_ (X_ 0 ah_ D_ rfl rfl rfl) rfl (fu_ (k := x1) 1 gn_ (.inr rfl) Tryz.runUnderlying122 rfl rfl rfl rfl hE fun ej1 cj1 hj1 => ?_))))))
    refine d_ (b_ rfl (c_ (a_ (O_ rfl rfl rfl (af_ (by omega) (by omega))) rfl (a_ (e_ rfl) rfl (d_ (w_ rfl ?_))))))
    exact Y_ ⟨(i + 1, ej1, cj1, (if x1 ∈ q then q else q ++ [x1])), hlx1, hj1, iR_ hq hx1⟩ (by dsimp only; omega) ⟨rfl, rfl, rfl, rfl, rfl, trivial⟩ (m_ (f_ i_) (f_ i_)) (fun _ _ h => h)
theorem fhas_c (mb : Nat) (es : Array MapEntry) (ce : Nat) (q : List Fc) (hE : SetE Fc.val es q) (f : Fc) : Tri Tryz.prog 84 #[.map (some mb), Fc.val f] [(mb, .map es ce)] [] (fun _ : Unit => .bool (decide (f ∈ q))) (fun _ => [(mb, .map es ce)]) (fun _ => []) := by
  refine R_ Tryz.func84 rfl rfl Tryz.ntmps84 rfl fun v0 => ?_
  refine h_ (c_ (bn_ rfl rfl fun b1 => ?_))
  refine a_ (g_ rfl) rfl (d_ (b_ rfl (h_ (c_ (a_ (e_ rfl) rfl (a_ (X_ 0 ah_ D_ rfl rfl rfl) rfl (x_ (ej_ (k := f) gn_ Tryz.runUnderlying122 dJ_ rfl rfl hE (fun v h _ => (h.own _ (List.mem_of_getElem? (i := 1) rfl)).1)) rfl fun r1 hr1 => ?_)))))))
  refine a_ (g_ rfl) rfl (d_ (b_ rfl (E_ ?_)))
  exact as_ Tryz.results84 () (y_ rfl hr1.symm) (f_ i_) (fun _ _ _ => trivial)
theorem gp_ (l : List Fc) (lad : Option Addr) (lcap : Nat) (mb : Nat) (es : Array MapEntry) (ce : Nat) (q : List Fc) (hE : SetE Fc.val es q) (hl : l.length ≤ 1000000000) : Tri Tryz.prog 83 #[.slice lad (List.length l) lcap, (.func (.func 84) #[.map (some mb)] #[])] [(mb, .map es ce)] [aC_ lad (List.flatMap Fc.cells l)] (fun y : {y : Option Addr × Nat // ((bQ_ l q)).length ≤ y.2 ∧ y.2 ≤ maxLen ∧ (y.1 = none → y.2 = 0)} => .slice y.1.1 ((bQ_ l q)).length y.1.2) (fun _ => [(mb, .map es ce)]) (fun y => [aC_ y.1.1 (((bQ_ l q)).flatMap Fc.cells)]) := by
 refine R_ Tryz.func83 rfl rfl Tryz.ntmps83 rfl fun v0 => ?_
 refine h_ (c_ (a_ (g_ rfl) rfl (d_ (b_ rfl (jN_ (h_ (jO_ (b_ rfl (h_ ?_)))))))))
 refine h_ (c_ (a_ (e_ rfl) rfl (a_ (ak_ F_ rfl) rfl (a_ (e_ rfl) rfl (d_ (b_ rfl (Q_ ?_)))))))
 refine aG_ (ι := {y : Nat × Value × Hp // y.1 ≤ List.length l ∧ aR_ 41 6 y.2.1 (List.length (bQ_ (List.take y.1 l) q)) (List.flatMap Fc.cells (bQ_ (List.take y.1 l) q)) y.2.2}) (fun y => [(0, .slice lad (List.length l) lcap), (1, (.func (.func 84) #[.map (some mb)] #[])), (4, y.1.2.1), (7, .slice lad (List.length l) lcap), (8, .int .i64 (List.length l : Int)), (9, .int .i64 (y.1.1 : Int))]) (fun y => ((mb, .map es ce) :: y.1.2.2)) (fun y => [aC_ lad (List.flatMap Fc.cells l)]) (fun y => List.length l - y.1.1) ⟨((0 : Nat), (.slice none 0 0), []), by simp, (aR_.nil _ _)⟩ ⟨rfl, rfl, rfl, rfl, rfl, rfl, trivial⟩ i_ (fun _ _ h => h) ?_
 rintro ⟨⟨i, sv_Rfc, H_Rfc⟩, hi, hr_Rfc⟩
 dsimp only at hi hr_Rfc ⊢
 have hel := gq_ (List.take i l) q
 rw [List.length_take] at hel
 refine h_ (c_ (x_ (ax_ rfl rfl) rfl fun r1 hr1 => ?_))
 refine d_ (b_ rfl (h_ ?_))
 cases r1
 ·
  replace hr1 := of_decide_eq_false hr1
  refine v_ rfl (at_ rfl (b_ rfl (h_ (c_ (a_ (e_ rfl) rfl (a_ (g_ rfl) rfl (d_ (b_ rfl (E_ ?_)))))))))
  have e9 : (bQ_ (List.take i l) q) = bQ_ l q := by rw [List.take_of_length_le (by omega)]
  have hw1 : aR_ 41 6 sv_Rfc (List.length (bQ_ l q)) (List.flatMap Fc.cells (bQ_ l q)) H_Rfc := by have q9 := hr_Rfc; rw [e9] at q9; exact q9
  refine bt_ hw1 S_ fun ad2 cp2 had2 hcad2 hmad2 hzad2 => ?_
  exact as_ Tryz.results83 ⟨(ad2, cp2), hcad2, hmad2, hzad2⟩ (bW_ rfl had2) i_ (fun v _ h => ⟨h.1, trivial⟩)
 ·
  replace hr1 := of_decide_eq_true hr1
  have hlx1 : i < List.length l := by omega
  obtain ⟨x1, hx1⟩ : ∃ e0, l[i]? = some e0 := ⟨_, List.getElem?_eq_getElem hlx1⟩
  have hmx1 : x1 ∈ l := List.mem_of_getElem? hx1
  refine u_ rfl (B_ (b_ rfl (h_ (Q_ (h_ (c_ (a_ (aa_ F_ D_ rfl rfl (fun v _ h => az_ (n := 6) Fc.cells_len (by decide) (by exact h.1) hx1) (by omega) (by first | omega | (simp; done))) rfl (a_ (aT_ (ad := lad) (us := Fc.cells x1) ah_ D_ rfl (fun v _ h => by exact h.1) (Fc.cells_len _) (ac_ Fc.cells_len hx1)) rfl (ao_ ag_ rfl fun b1 => ?_)))))))))
  refine T_ 0 D_ rfl rfl rfl rfl rfl rfl (d_ (b_ rfl (h_ (h_ (c_ (a_ (e_ rfl) rfl (a_ (X_ 0 ah_ D_ rfl rfl rfl) rfl (cr_ (first := [.map (some mb)]) (cap := []) (fhas_c mb es ce q hE x1) rfl rfl (f_ i_) (fun _ _ _ => by exact trivial) rfl fun r2 hr2 => ?_))))))))
  refine d_ (b_ rfl ?_)
  cases r2
  ·
   replace hr2 := dF hr2
   refine v_ rfl (B_ (b_ rfl (c_ (a_ (e_ rfl) rfl (a_ (X_ 1 ah_ D_ rfl rfl rfl) rfl (aJ_ F_ D_ ag_ rfl rfl rfl rfl rfl rfl fun b2 => ?_))))))
   refine br_ (news := List.flatMap Fc.cells [x1]) cc_ hr_Rfc rfl rfl (f_ (f_ S_)) rfl (cK_ 0 rfl) (fun u hu => aN_ Fc.cells_one hu) (by simp only [maxLen]; ((try simp only [List.length_append, List.length_cons, List.length_nil]); omega)) (by ((try simp only [List.length_append, List.length_cons, List.length_nil]); omega)) rfl fun sv2 Hr2 hr2 => ?_
   refine al_ List.perm_append_comm ?_
   have hq2 : aR_ 41 6 sv2 (List.length ((bQ_ (List.take i l) q) ++ [x1])) (List.flatMap Fc.cells ((bQ_ (List.take i l) q) ++ [x1])) Hr2 := by rw [List.length_append, List.flatMap_append]; exact hr2
   refine a_ (g_ rfl) rfl (d_ (b_ rfl (c_ (a_ (O_ rfl rfl rfl (af_ (by omega) (by omega))) rfl (a_ (e_ rfl) rfl (d_ (w_ rfl ?_)))))))
   exact Y_ ⟨(i + 1, sv2, Hr2), hlx1, (by rw [hB_ hx1, if_neg (by assumption)]; exact hq2)⟩ (by dsimp only; omega) ⟨rfl, rfl, rfl, rfl, rfl, rfl, trivial⟩ (m_ (f_ i_) (f_ S_)) (fun _ _ h => h)
  ·
   replace hr2 := dT hr2
   refine u_ rfl (at_ rfl (b_ rfl (c_ (a_ (O_ rfl rfl rfl (af_ (by omega) (by omega))) rfl (a_ (e_ rfl) rfl (d_ (w_ rfl ?_)))))))
   exact Y_ ⟨(i + 1, sv_Rfc, H_Rfc), hlx1, (by rw [hB_ hx1, if_pos (by assumption), List.append_nil]; exact hr_Rfc)⟩ (by dsimp only; omega) ⟨rfl, rfl, rfl, rfl, rfl, rfl, trivial⟩ (m_ i_ S_) (fun _ _ h => h)
end Go.Proofs.YtpdbbglpbngeiaaGreatDoor
namespace Go.Proofs.YtpdbbglpbngeiaaGreatDoor
open Go Go.Sx Go.Proofs
attribute [local irreducible] Code.wp wpList wpAnyH
open Go.Vs
structure PL where
  l : List Pc
  ad : Option Addr
  cap : Nat
def PL.cells (x : PL) : List Value := [.slice x.ad x.l.length x.cap]
theorem PL.cells_len (x : PL) : x.cells.length = 1 := rfl
structure PL.ok (x : PL) : Prop where
  le : x.l.length ≤ x.cap
  nz : x.ad = none → x.cap = 0
  sh : x.l.length ≤ 100000
def plF (xs : List PL) : Fct where
  p v := ∀ x ∈ xs, bq_ v x.ad (List.flatMap Pc.cells x.l)
  mono := fun v v' h hp x hx => (aC_ x.ad (List.flatMap Pc.cells x.l)).mono v v' h (hp x hx)
def dA_ (xs : List PL) : List Pc := List.flatMap PL.l xs
theorem iI_ {xs : List PL} {i : Nat} {x : PL} (h : xs[i]? = some x) : dA_ (xs.take (i + 1)) = dA_ (xs.take i) ++ x.l := bo_ h
theorem jT_ {xs : List PL} (h : ∀ x ∈ xs, x.ok) (i : Nat) : (dA_ (xs.take i)).length ≤ min i xs.length * 100000 := by
  have := dE_ (g := PL.l) (n := 100000) (xs.take i) fun x hx => (h x (List.mem_of_mem_take hx)).sh
  rwa [List.length_take] at this
theorem eqS_c (l m : List Str) (ad ae : Option Addr) (cap cpe : Nat) (hl : l.length ≤ 1000000000000) (hm : m.length ≤ 1000000000000) : Tri Tryz.prog 128 #[.slice ad (List.length l) cap, .slice ae (List.length m) cpe] [] [aC_ ad (List.flatMap aM_ l), aC_ ae (List.flatMap aM_ m)] (fun _ : Unit => .bool (decide (l = m))) (fun _ => []) (fun _ => []) := by
 refine R_ Tryz.func128 rfl rfl Tryz.ntmps128 rfl fun v0 => ?_
 refine h_ (c_ (a_ (g_ rfl) rfl (d_ (b_ rfl (h_ (h_ (c_ (a_ (e_ rfl) rfl (a_ (ak_ z_ rfl) rfl ?_)))))))))
 refine a_ (e_ rfl) rfl (a_ (ak_ z_ rfl) rfl (x_ (bN_ rfl rfl) rfl fun r1 hr1 => ?_))
 refine d_ (b_ rfl ?_)
 cases r1
 ·
  replace hr1 := bb_ hr1
  refine v_ rfl (B_ (b_ rfl (h_ (h_ (c_ (a_ (e_ rfl) rfl (a_ (ak_ z_ rfl) rfl (a_ (e_ rfl) rfl (d_ ?_)))))))))
  refine b_ rfl (Q_ ?_)
  have hlm : List.length l = List.length m := by omega
  refine aG_ (ι := {y : Nat // y ≤ List.length l ∧ List.take y l = List.take y m}) (fun y => [(0, .slice ad (List.length l) cap), (1, .slice ae (List.length m) cpe), (12, .int .i64 (List.length l : Int)), (13, .int .i64 (y.1 : Int))]) (fun y => ([])) (fun y => [aC_ ad (List.flatMap aM_ l), aC_ ae (List.flatMap aM_ m)]) (fun y => List.length l - y.1) ⟨(0 : Nat), by simp, by simp⟩ ⟨rfl, rfl, rfl, rfl, trivial⟩ I_ (fun _ _ h => h) ?_
  rintro ⟨i, hi, he⟩
  dsimp only at hi he ⊢
  refine h_ (c_ (x_ (ax_ rfl rfl) rfl fun r2 hr2 => ?_))
  refine d_ (b_ rfl (h_ ?_))
  cases r2
  ·
   replace hr2 := of_decide_eq_false hr2
   refine v_ rfl (at_ rfl (b_ rfl (h_ (c_ (a_ (g_ rfl) rfl (d_ (b_ rfl (E_ ?_))))))))
   exact as_ Tryz.results128 () (y_ rfl (by symm; apply decide_eq_true; rwa [List.take_of_length_le (by omega), List.take_of_length_le (by omega)] at he)) I_ (fun _ _ _ => trivial)
  ·
   replace hr2 := of_decide_eq_true hr2
   have hlx1 : i < List.length l := by omega
   obtain ⟨x1, hx1⟩ : ∃ e0, l[i]? = some e0 := ⟨_, List.getElem?_eq_getElem hlx1⟩
   have hmx1 : x1 ∈ l := List.mem_of_getElem? hx1
   have hlx2 : i < List.length m := by omega
   obtain ⟨x2, hx2⟩ : ∃ e0, m[i]? = some e0 := ⟨_, List.getElem?_eq_getElem hlx2⟩
   have hmx2 : x2 ∈ m := List.mem_of_getElem? hx2
   refine u_ rfl (B_ (b_ rfl (h_ (Q_ (h_ (c_ (a_ (e_ rfl) rfl (a_ (g_ rfl) rfl (d_ ?_)))))))))
   refine b_ rfl (h_ ?_)
   refine aP_ (by kernel_rfl) ?_
   refine ae_ 0 [0, 1, 2, 3, 4, 5, 6, 7, 8] (by kernel_rfl) (fun _ a b => ⟨bE_ a, b⟩) (o_ rfl (e_ rfl) rfl (o_ rfl (e_ rfl) rfl (o_ rfl (aa_ z_ j_ rfl rfl (fun v _ h => az_ (n := 1) aq_ (by decide) (by exact h.1) hx1) (by omega) (by first | omega | (simp; done))) rfl (o_ rfl (aL_ (ad := ad) q_ rfl (fun v _ h => by exact h.1) (ac_ aq_ hx1 0 _ rfl)) rfl (o_ rfl (e_ rfl) rfl (o_ rfl (e_ rfl) rfl (o_ rfl (aa_ z_ j_ rfl rfl (fun v _ h => az_ (n := 1) aq_ (by decide) (by exact h.2.1) hx2) (by omega) (by first | omega | (simp; done))) rfl (o_ rfl (aL_ (ad := ae) q_ rfl (fun v _ h => by exact h.2.1) (ac_ aq_ hx2 0 _ rfl)) rfl ?_))))))))
   refine ck_ rfl (dK_ rfl rfl) rfl fun r3 hr3 => ?_
   refine ad_ (ab_ (by kernel_rfl) (b_ rfl ?_))
   cases r3
   ·
    replace hr3 := bb_ hr3
    refine v_ rfl (B_ (b_ rfl (c_ (a_ (O_ rfl rfl rfl (af_ (by omega) (by omega))) rfl (a_ (e_ rfl) rfl (d_ (w_ rfl ?_)))))))
    exact Y_ ⟨i + 1, hlx1, by rw [List.take_add_one, hx1, List.take_add_one, hx2, he]; simp_all⟩ (by dsimp only; omega) ⟨rfl, rfl, rfl, rfl, trivial⟩ I_ (fun _ _ h => h)
   ·
    replace hr3 := ba_ hr3
    refine u_ rfl (h_ (c_ (a_ (g_ rfl) rfl (d_ (b_ rfl (E_ ?_))))))
    exact as_ Tryz.results128 () (y_ rfl (by symm; apply decide_eq_false; intro e; subst e; rw [hx1] at hx2; simp_all)) I_ (fun _ _ _ => trivial)
 ·
  replace hr1 := ba_ hr1
  refine u_ rfl (h_ (c_ (a_ (g_ rfl) rfl (d_ (b_ rfl (E_ ?_))))))
  exact as_ Tryz.results128 () (y_ rfl (by symm; apply decide_eq_false; intro e; subst e; omega)) I_ (fun _ _ _ => trivial)
theorem eqF_c (l m : List Fc) (ad ae : Option Addr) (cap cpe : Nat) (hl : l.length ≤ 1000000000000) (hm : m.length ≤ 1000000000000) : Tri Tryz.prog 129 #[.slice ad (List.length l) cap, .slice ae (List.length m) cpe] [] [aC_ ad (List.flatMap Fc.cells l), aC_ ae (List.flatMap Fc.cells m)] (fun _ : Unit => .bool (decide (l = m))) (fun _ => []) (fun _ => []) := by
 refine R_ Tryz.func129 rfl rfl Tryz.ntmps129 rfl fun v0 => ?_
 refine h_ (c_ (a_ (g_ rfl) rfl (d_ (b_ rfl (h_ (h_ (c_ (a_ (e_ rfl) rfl (a_ (ak_ F_ rfl) rfl ?_)))))))))
 refine a_ (e_ rfl) rfl (a_ (ak_ F_ rfl) rfl (x_ (bN_ rfl rfl) rfl fun r1 hr1 => ?_))
 refine d_ (b_ rfl ?_)
 cases r1
 ·
  replace hr1 := bb_ hr1
  refine v_ rfl (B_ (b_ rfl (h_ (h_ (c_ (a_ (e_ rfl) rfl (a_ (ak_ F_ rfl) rfl (a_ (e_ rfl) rfl (d_ ?_)))))))))
  refine b_ rfl (Q_ ?_)
  have hlm : List.length l = List.length m := by omega
  refine aG_ (ι := {y : Nat // y ≤ List.length l ∧ List.take y l = List.take y m}) (fun y => [(0, .slice ad (List.length l) cap), (1, .slice ae (List.length m) cpe), (12, .int .i64 (List.length l : Int)), (13, .int .i64 (y.1 : Int))]) (fun y => ([])) (fun y => [aC_ ad (List.flatMap Fc.cells l), aC_ ae (List.flatMap Fc.cells m)]) (fun y => List.length l - y.1) ⟨(0 : Nat), by simp, by simp⟩ ⟨rfl, rfl, rfl, rfl, trivial⟩ I_ (fun _ _ h => h) ?_
  rintro ⟨i, hi, he⟩
  dsimp only at hi he ⊢
  refine h_ (c_ (x_ (ax_ rfl rfl) rfl fun r2 hr2 => ?_))
  refine d_ (b_ rfl (h_ ?_))
  cases r2
  ·
   replace hr2 := of_decide_eq_false hr2
   refine v_ rfl (at_ rfl (b_ rfl (h_ (c_ (a_ (g_ rfl) rfl (d_ (b_ rfl (E_ ?_))))))))
   exact as_ Tryz.results129 () (y_ rfl (by symm; apply decide_eq_true; rwa [List.take_of_length_le (by omega), List.take_of_length_le (by omega)] at he)) I_ (fun _ _ _ => trivial)
  ·
   replace hr2 := of_decide_eq_true hr2
   have hlx1 : i < List.length l := by omega
   obtain ⟨x1, hx1⟩ : ∃ e0, l[i]? = some e0 := ⟨_, List.getElem?_eq_getElem hlx1⟩
   have hmx1 : x1 ∈ l := List.mem_of_getElem? hx1
   have hlx2 : i < List.length m := by omega
   obtain ⟨x2, hx2⟩ : ∃ e0, m[i]? = some e0 := ⟨_, List.getElem?_eq_getElem hlx2⟩
   have hmx2 : x2 ∈ m := List.mem_of_getElem? hx2
   refine u_ rfl (B_ (b_ rfl (h_ (Q_ (h_ (c_ (a_ (e_ rfl) rfl (a_ (g_ rfl) rfl (d_ ?_)))))))))
   refine b_ rfl (h_ ?_)
   refine aP_ (by kernel_rfl) ?_
   refine ae_ 0 [0, 1, 2, 3, 4, 5, 6, 7, 8] (by kernel_rfl) (fun _ a b => ⟨bE_ a, b⟩) (o_ rfl (e_ rfl) rfl (o_ rfl (e_ rfl) rfl (o_ rfl (aa_ F_ D_ rfl rfl (fun v _ h => az_ (n := 6) Fc.cells_len (by decide) (by exact h.1) hx1) (by omega) (by first | omega | (simp; done))) rfl (o_ rfl (aT_ (ad := ad) (us := Fc.cells x1) ah_ D_ rfl (fun v _ h => by exact h.1) (Fc.cells_len _) (ac_ Fc.cells_len hx1)) rfl (o_ rfl (e_ rfl) rfl (o_ rfl (e_ rfl) rfl (o_ rfl (aa_ F_ D_ rfl rfl (fun v _ h => az_ (n := 6) Fc.cells_len (by decide) (by exact h.2.1) hx2) (by omega) (by first | omega | (simp; done))) rfl (o_ rfl (aT_ (ad := ae) (us := Fc.cells x2) ah_ D_ rfl (fun v _ h => by exact h.2.1) (Fc.cells_len _) (ac_ Fc.cells_len hx2)) rfl ?_))))))))
   refine ck_ rfl (eT_ (p := x1) (q := x2) rfl rfl) rfl fun r3 hr3 => ?_
   refine ad_ (ab_ (by kernel_rfl) (b_ rfl ?_))
   cases r3
   ·
    replace hr3 := of_decide_eq_false hr3
    refine v_ rfl (B_ (b_ rfl (c_ (a_ (O_ rfl rfl rfl (af_ (by omega) (by omega))) rfl (a_ (e_ rfl) rfl (d_ (w_ rfl ?_)))))))
    exact Y_ ⟨i + 1, hlx1, by rw [List.take_add_one, hx1, List.take_add_one, hx2, he]; simp_all⟩ (by dsimp only; omega) ⟨rfl, rfl, rfl, rfl, trivial⟩ I_ (fun _ _ h => h)
   ·
    replace hr3 := of_decide_eq_true hr3
    refine u_ rfl (h_ (c_ (a_ (g_ rfl) rfl (d_ (b_ rfl (E_ ?_))))))
    exact as_ Tryz.results129 () (y_ rfl (by symm; apply decide_eq_false; intro e; subst e; rw [hx1] at hx2; simp_all)) I_ (fun _ _ _ => trivial)
 ·
  replace hr1 := ba_ hr1
  refine u_ rfl (h_ (c_ (a_ (g_ rfl) rfl (d_ (b_ rfl (E_ ?_))))))
  exact as_ Tryz.results129 () (y_ rfl (by symm; apply decide_eq_false; intro e; subst e; omega)) I_ (fun _ _ _ => trivial)
theorem oo_ (c d : Cl) (h1 : c.atoms.length ≤ 1000000000000) (h2 : c.facts.length ≤ 1000000000000) (h3 : d.atoms.length ≤ 1000000000000) (h4 : d.facts.length ≤ 1000000000000) : Tri Tryz.prog 79 #[Cl.val c, Cl.val d] [] [aC_ (Cl.aad c) (List.flatMap aM_ (Cl.atoms c)), aC_ (Cl.fad c) (List.flatMap Fc.cells (Cl.facts c)), aC_ (Cl.aad d) (List.flatMap aM_ (Cl.atoms d)), aC_ (Cl.fad d) (List.flatMap Fc.cells (Cl.facts d))] (fun _ : Unit => .bool (decide (c.atoms = d.atoms) && decide (c.facts = d.facts))) (fun _ => []) (fun _ => []) := by
  refine R_ Tryz.func79 rfl rfl Tryz.ntmps79 rfl fun v0 => ?_
  refine h_ (c_ (bn_ rfl rfl fun b1 => ?_))
  refine bn_ rfl rfl fun b2 => ?_
  refine a_ (g_ rfl) rfl (d_ (b_ rfl (h_ (c_ (a_ (l_ aB_ rfl rfl rfl cA_) rfl (a_ (t_ 1 eC_ rfl rfl rfl) rfl (a_ (l_ aB_ rfl rfl rfl cA_) rfl (a_ (t_ 0 eC_ rfl rfl rfl) rfl (au_ (eqS_c (Cl.atoms c) (Cl.atoms d) (Cl.aad c) (Cl.aad d) (Cl.acap c) (Cl.acap d) (by omega) (by omega)) rfl I_ (fun v _ h => by exact ⟨h.1, h.2.2.1, trivial⟩) rfl fun r1 hr1 => ?_)))))))))
  refine a_ (e_ rfl) rfl ?_
  cases r1
  · skip
    replace hr1 := of_decide_eq_false hr1
    refine r_ rfl rfl rfl rfl (r_ rfl rfl rfl rfl (r_ rfl rfl rfl rfl (r_ rfl rfl rfl rfl (r_ rfl rfl rfl rfl (a_ (A_ rfl rfl) rfl (a_ (g_ rfl) rfl (d_ (b_ rfl (E_ ?_)))))))))
    exact as_ Tryz.results79 () (y_ rfl (by have p1 := eq_false hr1; simp only [p1, if_true, if_false, decide_true, decide_false, Bool.and_true, Bool.and_false, Bool.true_and, Bool.false_and, Bool.or_true, Bool.or_false, Bool.true_or, Bool.false_or, Bool.not_true, Bool.not_false, ne_eq, not_true_eq_false, not_false_eq_true, true_and, and_true, false_and, and_false, true_or, or_true, false_or, or_false, ite_true, ite_false, Bool.false_eq_true])) I_ (fun _ _ _ => trivial)
  · skip
    replace hr1 := of_decide_eq_true hr1
    refine p_ rfl rfl (a_ (l_ aB_ rfl rfl rfl bs_) rfl (p_ rfl rfl (a_ (t_ 1 bB_ rfl rfl rfl) rfl (p_ rfl rfl (a_ (l_ aB_ rfl rfl rfl bs_) rfl (p_ rfl rfl (a_ (t_ 0 bB_ rfl rfl rfl) rfl (p_ rfl rfl (au_ (eqF_c (Cl.facts c) (Cl.facts d) (Cl.fad c) (Cl.fad d) (Cl.fcap c) (Cl.fcap d) (by omega) (by omega)) rfl I_ (fun v _ h => by exact ⟨h.2.1, h.2.2.2.1, trivial⟩) rfl fun r2 hr2 => ?_)))))))))
    refine a_ (G_ rfl rfl) rfl (a_ (g_ rfl) rfl (d_ (b_ rfl (E_ ?_))))
    exact as_ Tryz.results79 () (y_ rfl (by have p1 := eq_true hr1; rw [← hr2]; simp only [p1, if_true, if_false, decide_true, decide_false, Bool.and_true, Bool.and_false, Bool.true_and, Bool.false_and, Bool.or_true, Bool.or_false, Bool.true_or, Bool.false_or, Bool.not_true, Bool.not_false, ne_eq, not_true_eq_false, not_false_eq_true, true_and, and_true, false_and, and_false, true_or, or_true, false_or, or_false, ite_true, ite_false, Bool.false_eq_true])) I_ (fun _ _ _ => trivial)
def gM_ (w : Wk) (e : Int) : Prop := if bK_ w.ps ≠ 0 then e = bK_ w.ps else ∃ c e1, dG_ w.ps 1073741824 c e1 ∧ e = if e1 = 0 ∧ c.atoms = w.cl.atoms ∧ c.facts = w.cl.facts then 0 else 1
theorem gM_.uniq {w : Wk} {e f : Int} (h : gM_ w e) (k : gM_ w f) : e = f := by
  unfold gM_ at h k
  split at h
  · rename_i h1; rw [if_pos h1] at k; rw [h, k]
  · rename_i h1
    rw [if_neg h1] at k
    obtain ⟨c, e1, a1, b1⟩ := h
    obtain ⟨d, e2, a2, b2⟩ := k
    obtain ⟨q1, q2, q3⟩ := kg_ a1 a2
    rw [b1, b2, q1, q2, q3]
theorem pm_ (w : Wk) (hsm : ∀ x ∈ w.ps, x.sm) (hp : w.ps.length ≤ 100000000) (h3 : w.cl.atoms.length ≤ 1000000000000) (h4 : w.cl.facts.length ≤ 1000000000000) : Tri Tryz.prog 37 #[Wk.val w] [] [aC_ (Wk.pad w) (List.flatMap Pc.cells (Wk.ps w)), aC_ (Cl.aad (Wk.cl w)) (List.flatMap aM_ (Cl.atoms (Wk.cl w))), aC_ (Cl.fad (Wk.cl w)) (List.flatMap Fc.cells (Cl.facts (Wk.cl w))), gK_] (fun e : {e : Int // gM_ w e} => .int .i64 e.1) (fun _ => []) (fun _ => []) := by
  refine R_ Tryz.func37 rfl rfl Tryz.ntmps37 rfl fun v0 => ?_
  refine h_ (c_ (bn_ rfl rfl fun b1 => ?_))
  refine a_ (g_ rfl) rfl (d_ (b_ rfl (h_ (h_ (c_ (a_ (l_ aA_ rfl rfl rfl bC_) rfl (a_ (t_ 0 ci_ rfl rfl rfl) rfl (V_ (kE_ (Wk.ps w) (Wk.pad w) (Wk.pcap w) (by omega) hsm) rfl I_ (fun v _ h => by exact ⟨h.1, h.2.2.2.1, trivial⟩) rfl fun _ => ?_))))))))
  refine a_ (g_ rfl) rfl (d_ (b_ rfl (h_ (c_ (a_ (e_ rfl) rfl (x_ (bN_ rfl rfl) rfl fun r1 hr1 => ?_))))))
  refine d_ (b_ rfl ?_)
  cases r1
  · skip
    replace hr1 := bb_ hr1
    have hckw := hr1
    refine v_ rfl (B_ (b_ rfl (h_ (c_ (a_ (l_ aA_ rfl rfl rfl bC_) rfl (a_ (t_ 0 ci_ rfl rfl rfl) rfl (V_ (qD_ (Wk.ps w) (Wk.pad w) (Wk.pcap w) 1073741824 hsm (by omega)) rfl I_ (fun v _ h => by exact ⟨h.1, h.2.2.2.1, trivial⟩) rfl fun ⟨⟨c1, e1⟩, hA1⟩ => ?_)))))))
    dsimp only
    dsimp only at hA1
    refine a_ (e_ rfl) rfl (a_ (am_ rfl rfl) rfl (a_ (am_ rfl rfl) rfl (ao_ dq_ rfl fun b2 => ?_)))
    refine T_ 0 Z_ rfl rfl rfl rfl rfl rfl (a_ (g_ rfl) rfl (d_ (b_ rfl (h_ (h_ (c_ (a_ (e_ rfl) rfl (x_ (bN_ rfl rfl) rfl fun r2 hr2 => ?_))))))))
    refine a_ (e_ rfl) rfl ?_
    cases r2
    · skip
      replace hr2 := bb_ hr2
      refine p_ rfl rfl (a_ (X_ 0 aU_ Z_ rfl rfl rfl) rfl (p_ rfl rfl (a_ (l_ aA_ rfl rfl rfl Z_) rfl (p_ rfl rfl (a_ (X_ 1 aU_ Z_ rfl rfl rfl) rfl (p_ rfl rfl (au_ (oo_ c1 (Wk.cl w) (by have := hA1.len; omega) (by have := hA1.len; omega) (by omega) (by omega)) rfl I_ (fun v _ h => by exact ⟨h.1, h.2.1, h.2.2.2.1, h.2.2.2.2.1, trivial⟩) rfl fun r3 hr3 => ?_)))))))
      refine p_ rfl rfl (a_ (bZ_ rfl) rfl (a_ (A_ rfl rfl) rfl (d_ (b_ rfl ?_))))
      cases r3
      · skip
        simp at hr3
        refine u_ rfl (h_ (c_ (a_ (g_ rfl) rfl (d_ (b_ rfl (E_ ?_))))))
        exact as_ Tryz.results37 ⟨1, by unfold gM_; rw [if_neg (fun q => q hckw)]; exact ⟨c1, e1, hA1, by rw [if_neg (fun q => by first | exact absurd q.1 (by assumption) | (have := q.2; simp_all))]⟩⟩ rfl I_ (fun _ _ _ => trivial)
      · skip
        simp at hr3
        refine v_ rfl (B_ (b_ rfl (h_ (c_ (a_ (g_ rfl) rfl (d_ (b_ rfl (E_ ?_))))))))
        exact as_ Tryz.results37 ⟨0, by unfold gM_; rw [if_neg (fun q => q hckw)]; exact ⟨c1, e1, hA1, by rw [if_pos ⟨by assumption, by simpa using hr3⟩]⟩⟩ rfl I_ (fun _ _ _ => trivial)
    · skip
      replace hr2 := ba_ hr2
      refine r_ rfl rfl rfl rfl (r_ rfl rfl rfl rfl (r_ rfl rfl rfl rfl (r_ rfl rfl rfl rfl (r_ rfl rfl rfl rfl (a_ (G_ rfl rfl) rfl (d_ (b_ rfl (u_ rfl (h_ ?_)))))))))
      refine c_ (a_ (g_ rfl) rfl (d_ (b_ rfl (E_ ?_))))
      exact as_ Tryz.results37 ⟨1, by unfold gM_; rw [if_neg (fun q => q hckw)]; exact ⟨c1, e1, hA1, by rw [if_neg (fun q => by first | exact absurd q.1 (by assumption) | (have := q.2; simp_all))]⟩⟩ rfl I_ (fun _ _ _ => trivial)
  · skip
    replace hr1 := ba_ hr1
    refine u_ rfl (h_ (c_ (a_ (e_ rfl) rfl (a_ (g_ rfl) rfl (d_ (b_ rfl (E_ ?_)))))))
    exact as_ Tryz.results37 ⟨(bK_ (Wk.ps w)), by unfold gM_; rw [if_pos (by assumption)]⟩ rfl I_ (fun _ _ _ => trivial)
theorem qe_ (n : Nat) (hn : n ≤ 1000000000) : Tri Tryz.prog 130 #[.slice none 0 0, .int .i64 (n : Int)] [] [] (fun y : {y : Value × Hp // aR_ 47 10 y.1 0 [] y.2} => y.1.1) (fun y => y.1.2) (fun _ => []) := by
  refine R_ Tryz.func130 rfl rfl Tryz.ntmps130 rfl fun v0 => ?_
  refine h_ (c_ (a_ (g_ rfl) rfl (d_ (b_ rfl (h_ (h_ (c_ (a_ (e_ rfl) rfl (x_ (ax_ rfl rfl) rfl fun r1 hr1 => ?_)))))))))
  refine d_ (b_ rfl ?_)
  cases r1
  · skip
    replace hr1 := of_decide_eq_false hr1
    refine v_ rfl (B_ (b_ rfl (h_ (h_ (c_ (a_ (e_ rfl) rfl (a_ (e_ rfl) rfl (a_ (kT_ H_ rfl) rfl (a_ (e_ rfl) rfl ?_)))))))))
    refine a_ (ak_ H_ rfl) rfl (a_ (O_ rfl rfl rfl (af_ (by omega) (by omega))) rfl (a_ (bA_ (O_ rfl rfl rfl (af_ (by omega) (by omega))) (show Value.int .i64 ((n : Int) - (0 - 0)) = Value.int .i64 (n : Int) from congrArg _ (by omega))) rfl (a_ (g_ rfl) rfl (d_ (b_ rfl (h_ (c_ (a_ (e_ rfl) rfl (x_ (cd_ rfl rfl) rfl fun r2 hr2 => ?_)))))))))
    refine d_ (b_ rfl ?_)
    cases r2
    · skip
      replace hr2 := of_decide_eq_false hr2
      refine v_ rfl (B_ (b_ rfl (h_ (c_ (a_ (e_ rfl) rfl (a_ (g_ rfl) rfl (d_ (b_ rfl (E_ ?_)))))))))
      exact as_ Tryz.results130 ⟨(.slice none 0 0, []), aR_.nil _ _⟩ rfl I_ (fun _ _ _ => trivial)
    · skip
      replace hr2 := of_decide_eq_true hr2
      refine u_ rfl (c_ (a_ (e_ rfl) rfl (a_ (e_ rfl) rfl (a_ (kT_ H_ rfl) rfl (a_ (bA_ (ch_ (i := 0) (j := 0) (kl := .i64) (kh := .i64) H_ L_ rfl rfl rfl (by omega) (by omega)) (show _ = Value.slice none 0 0 from rfl)) rfl (a_ (e_ rfl) rfl (lz_ (n := n) gW_ bR_ rfl rfl (by omega) (by omega) (by simp only [maxLen]; omega) rfl fun yz bz hz => ?_)))))))
      refine a_ (e_ rfl) rfl (a_ (ak_ H_ rfl) rfl (a_ (bA_ (ch_ (i := 0) (j := 0) (kl := .i64) (kh := .i64) H_ L_ rfl rfl rfl (by omega) (by omega)) (show _ = Value.slice (some ⟨bz, 0, none⟩) 0 yz.1 by simp [lf_])) rfl (a_ (g_ rfl) rfl (d_ (b_ rfl (h_ (c_ (a_ (e_ rfl) rfl (a_ (g_ rfl) rfl ?_)))))))))
      refine d_ (b_ rfl (E_ ?_))
      exact as_ Tryz.results130 ⟨(.slice (some ⟨bz, 0, none⟩) 0 yz.1, [(bz, .cells yz.2 47 (0, 0))]), nn_ hz.2.1 hz.2.2⟩ rfl i_ (fun _ _ _ => trivial)
  · skip
    replace hr1 := of_decide_eq_true hr1
    exfalso; omega
theorem pi_ (xs : List PL) (xad : Option Addr) (xcap : Nat) (hok : ∀ x ∈ xs, x.ok) (hl : xs.length ≤ 100) : Tri Tryz.prog 81 #[.slice xad (List.length xs) xcap] [] [aC_ xad (List.flatMap PL.cells xs), plF xs] (fun y : {y : Option Addr × Nat // ((dA_ xs)).length ≤ y.2 ∧ y.2 ≤ maxLen ∧ (y.1 = none → y.2 = 0)} => .slice y.1.1 ((dA_ xs)).length y.1.2) (fun _ => []) (fun y => [aC_ y.1.1 (((dA_ xs)).flatMap Pc.cells)]) := by
 refine R_ Tryz.func81 rfl rfl Tryz.ntmps81 rfl fun v0 => ?_
 refine h_ (c_ (a_ (g_ rfl) rfl (d_ (b_ rfl (h_ (c_ (a_ (g_ rfl) rfl (d_ (b_ rfl ?_)))))))))
 refine h_ (h_ (c_ (a_ (e_ rfl) rfl (a_ (ak_ cJ_ rfl) rfl (a_ (e_ rfl) rfl (d_ (b_ rfl (Q_ ?_))))))))
 refine aG_ (ι := {y : Nat × Nat // y.1 ≤ List.length xs ∧ y.2 ≤ y.1 * 100000}) (fun y => [(0, .slice xad (List.length xs) xcap), (3, .int .i64 (y.1.2 : Int)), (9, .slice xad (List.length xs) xcap), (10, .int .i64 (List.length xs : Int)), (11, .int .i64 (y.1.1 : Int))]) (fun y => ([])) (fun y => [aC_ xad (List.flatMap PL.cells xs), plF xs]) (fun y => List.length xs - y.1.1) ⟨((0 : Nat), (0 : Nat)), by simp, by simp⟩ ⟨rfl, rfl, rfl, rfl, rfl, trivial⟩ I_ (fun _ _ h => h) ?_
 rintro ⟨⟨i, w⟩, hi, hw⟩
 dsimp only at hi hw ⊢
 refine h_ (c_ (x_ (ax_ rfl rfl) rfl fun r1 hr1 => ?_))
 refine d_ (b_ rfl (h_ ?_))
 cases r1
 ·
  replace hr1 := of_decide_eq_false hr1
  refine v_ rfl (at_ rfl (b_ rfl (h_ (c_ (a_ (e_ rfl) rfl (V_ (qe_ w (by omega)) rfl I_ (fun _ _ _ => by exact trivial) rfl fun ⟨⟨svg9, Hg9⟩, hg9⟩ => ?_))))))
  dsimp only
  dsimp only at hg9
  refine al_ ff_ ?_
  have hg8 : aR_ 47 10 svg9 (List.length (dA_ (List.take 0 xs))) (List.flatMap Pc.cells (dA_ (List.take 0 xs))) Hg9 := by exact hg9
  refine a_ (g_ rfl) rfl (d_ (b_ rfl (h_ (h_ (c_ (a_ (e_ rfl) rfl (a_ (ak_ cJ_ rfl) rfl (a_ (e_ rfl) rfl (d_ ?_)))))))))
  refine b_ rfl (Q_ ?_)
  refine aG_ (ι := {y : Nat × Value × Hp // y.1 ≤ List.length xs ∧ aR_ 47 10 y.2.1 (List.length (dA_ (List.take y.1 xs))) (List.flatMap Pc.cells (dA_ (List.take y.1 xs))) y.2.2}) (fun y => [(0, .slice xad (List.length xs) xcap), (6, y.1.2.1), (25, .slice xad (List.length xs) xcap), (26, .int .i64 (List.length xs : Int)), (27, .int .i64 (y.1.1 : Int))]) (fun y => (y.1.2.2)) (fun y => [aC_ xad (List.flatMap PL.cells xs), plF xs]) (fun y => List.length xs - y.1.1) ⟨((0 : Nat), svg9, Hg9), by simp, hg8⟩ ⟨rfl, rfl, rfl, rfl, rfl, trivial⟩ aE_ (fun _ _ h => h) ?_
  rintro ⟨⟨j, sv_Rp, H_Rp⟩, hj, hr_Rp⟩
  dsimp only at hj hr_Rp ⊢
  have hpl := jT_ hok j
  refine h_ (c_ (x_ (ax_ rfl rfl) rfl fun r2 hr2 => ?_))
  refine d_ (b_ rfl (h_ ?_))
  cases r2
  ·
   replace hr2 := of_decide_eq_false hr2
   rw [List.take_of_length_le (by omega)] at hr_Rp
   refine v_ rfl (at_ rfl (b_ rfl (h_ (c_ (a_ (e_ rfl) rfl (a_ (g_ rfl) rfl (d_ (b_ rfl (E_ ?_)))))))))
   refine bt_ hr_Rp aE_ fun ad2 cp2 had2 hcad2 hmad2 hzad2 => ?_
   exact as_ Tryz.results81 ⟨(ad2, cp2), hcad2, hmad2, hzad2⟩ (bW_ rfl had2) I_ (fun v _ h => ⟨h.1, trivial⟩)
  ·
   replace hr2 := of_decide_eq_true hr2
   have hlx2 : j < List.length xs := by omega
   obtain ⟨x2, hx2⟩ : ∃ e0, xs[j]? = some e0 := ⟨_, List.getElem?_eq_getElem hlx2⟩
   have hmx2 : x2 ∈ xs := List.mem_of_getElem? hx2
   have hsh1 := (hok x2 hmx2).sh
   refine u_ rfl (B_ (b_ rfl (h_ (Q_ (h_ (c_ (a_ (aa_ cJ_ bC_ rfl rfl (fun v _ h => az_ (n := 1) PL.cells_len (by decide) (by exact h.1) hx2) (by omega) (by first | omega | (simp; done))) rfl (a_ (aL_ (ad := xad) ci_ rfl (fun v _ h => by exact h.1) (ac_ PL.cells_len hx2 0 _ rfl)) rfl (a_ (g_ rfl) rfl ?_)))))))))
   refine d_ (b_ rfl (c_ (a_ (e_ rfl) rfl (a_ (e_ rfl) rfl (aK_ (news := List.flatMap Pc.cells (PL.l x2)) gW_ hr_Rp rfl rfl (hok x2 hmx2).nz (hok x2 hmx2).le aE_ (by rw [bp_ Pc.cells 10 Pc.cells_len]) (fun v _ h => by exact (h.2.1 x2 hmx2)) (fun u hu => aN_ Pc.cells_one hu) (by simp only [maxLen]; (have := (hok x2 hmx2).sh; omega)) (by (have := (hok x2 hmx2).sh; omega)) rfl fun sv1 Hr1 hr1 => ?_)))))
   refine al_ List.perm_append_comm ?_
   have hq1 : aR_ 47 10 sv1 (List.length ((dA_ (List.take j xs)) ++ (PL.l x2))) (List.flatMap Pc.cells ((dA_ (List.take j xs)) ++ (PL.l x2))) Hr1 := by rw [List.length_append, List.flatMap_append]; exact hr1
   refine a_ (g_ rfl) rfl (d_ (b_ rfl (c_ (a_ (O_ rfl rfl rfl (af_ (by omega) (by omega))) rfl (a_ (e_ rfl) rfl (d_ (w_ rfl ?_)))))))
   exact Y_ ⟨(j + 1, sv1, Hr1), hlx2, (by rw [iI_ hx2]; exact hq1)⟩ (by dsimp only; omega) ⟨rfl, rfl, rfl, rfl, rfl, trivial⟩ aE_ (fun _ _ h => h)
 ·
  replace hr1 := of_decide_eq_true hr1
  have hlx1 : i < List.length xs := by omega
  obtain ⟨x1, hx1⟩ : ∃ e0, xs[i]? = some e0 := ⟨_, List.getElem?_eq_getElem hlx1⟩
  have hmx1 : x1 ∈ xs := List.mem_of_getElem? hx1
  have hsh1 := (hok x1 hmx1).sh
  refine u_ rfl (B_ (b_ rfl (h_ (Q_ (h_ (c_ (a_ (aa_ cJ_ bC_ rfl rfl (fun v _ h => az_ (n := 1) PL.cells_len (by decide) (by exact h.1) hx1) (by omega) (by first | omega | (simp; done))) rfl (a_ (aL_ (ad := xad) ci_ rfl (fun v _ h => by exact h.1) (ac_ PL.cells_len hx1 0 _ rfl)) rfl (a_ (g_ rfl) rfl ?_)))))))))
  refine d_ (b_ rfl (h_ (c_ (a_ (e_ rfl) rfl (a_ (e_ rfl) rfl (a_ (ak_ H_ rfl) rfl (a_ (O_ rfl rfl rfl (af_ (by omega) (by omega))) rfl (a_ (g_ rfl) rfl (d_ ?_)))))))))
  refine b_ rfl (h_ (c_ (a_ (e_ rfl) rfl (x_ (ax_ rfl rfl) rfl fun r3 hr3 => ?_))))
  refine d_ (b_ rfl ?_)
  cases r3
  ·
   replace hr3 := of_decide_eq_false hr3
   refine v_ rfl (B_ (b_ rfl (c_ (a_ (O_ rfl rfl rfl (af_ (by omega) (by omega))) rfl (a_ (e_ rfl) rfl (d_ (w_ rfl ?_)))))))
   exact Y_ ⟨(i + 1, w + List.length (PL.l x1)), hlx1, by have := (hok x1 hmx1).sh; dsimp only; omega⟩ (by dsimp only; omega) ⟨rfl, (cl_ rfl (by push_cast; rfl)), rfl, rfl, rfl, trivial⟩ I_ (fun _ _ h => h)
  ·
   replace hr3 := of_decide_eq_true hr3
   exfalso; omega
end Go.Proofs.YtpdbbglpbngeiaaGreatDoor
namespace Go.Proofs.YtpdbbglpbngeiaaGreatDoor
open Go Go.Sx Go.Proofs
attribute [local irreducible] Code.wp wpList wpAnyH
open Go.Vs
theorem keyI : KeyT Tryz.prog 3 (fun n : Int => .int .i64 n) := oV_ bR_
def fX_ (w : Wk) (p : List Pc) (bu : Int) (x : Wk) (new : List Fc) (e : Int) : Prop :=
  if bK_ p ≠ 0 then x = Wk.no ∧ new = [] ∧ e = bK_ p
  else if ¬ (0 ≤ bu ∧ bu ≤ 1073741824) then x = Wk.no ∧ new = [] ∧ e = 1
  else if 16384 < w.ps.length + p.length then x = Wk.no ∧ new = [] ∧ e = 2
  else cV_ (w.ps ++ p) bu x e ∧ new = if e = 0 then bQ_ x.cl.facts w.cl.facts else []
theorem fX_.good {w : Wk} {p : List Pc} {bu : Int} {x : Wk} {new : List Fc} (h : fX_ w p bu x new 0) : bK_ p = 0 ∧ (0 ≤ bu ∧ bu ≤ 1073741824) ∧ w.ps.length + p.length ≤ 16384 ∧ cV_ (w.ps ++ p) bu x 0 ∧ new = bQ_ x.cl.facts w.cl.facts := by
  unfold fX_ at h
  split at h
  · rename_i h1; exact absurd h.2.2.symm h1
  · rename_i h1
    split at h
    · exact absurd h.2.2 (by decide)
    · rename_i h2
      split at h
      · exact absurd h.2.2 (by decide)
      · rename_i h3
        exact ⟨Decidable.not_not.1 h1, Decidable.not_not.1 h2, by omega, h.1, h.2⟩
theorem fX_.ok {w : Wk} {p : List Pc} {bu : Int} {x : Wk} {new : List Fc} {e : Int} (h : fX_ w p bu x new e) : x.ok ∧ x.ps.length ≤ w.ps.length + p.length ∧ x.cl.atoms.length ≤ 3 * (w.ps.length + p.length) + 2 ∧ x.cl.facts.length ≤ 65536 ∧ new.length ≤ 65536 := by
  have no : Wk.no.ok ∧ Wk.no.ps.length ≤ w.ps.length + p.length ∧ Wk.no.cl.atoms.length ≤ 3 * (w.ps.length + p.length) + 2 ∧ Wk.no.cl.facts.length ≤ 65536 ∧ ([] : List Fc).length ≤ 65536 := ⟨Wk.no_ok, by simp [Wk.no], by simp [Wk.no, Cl.no], by simp [Wk.no, Cl.no], by simp⟩
  unfold fX_ at h
  split at h
  · obtain ⟨rfl, rfl, _⟩ := h; exact no
  · split at h
    · obtain ⟨rfl, rfl, _⟩ := h; exact no
    · split at h
      · obtain ⟨rfl, rfl, _⟩ := h; exact no
      · obtain ⟨q1, q2, q3⟩ := h.1.len
        rw [List.length_append] at q1 q2
        refine ⟨h.1.ok, q1, q2, q3, ?_⟩
        rw [h.2]
        split
        · have := gq_ x.cl.facts w.cl.facts; omega
        · simp
def jz_ (n : Nat) (l : List Int) : Prop := (∀ x ∈ l, 0 ≤ x ∧ x < n) ∧ l.Pairwise (· < ·)
instance (n : Nat) (l : List Int) : Decidable (jz_ n l) := by unfold jz_; exact inferInstance
def dI_ (l : List Int) : Nat → List Pc → List Pc
  | _, [] => []
  | i, x :: r => if (i : Int) ∈ l then dI_ l (i + 1) r else x :: dI_ l (i + 1) r
theorem hr_ (l : List Int) : ∀ (i : Nat) (r s : List Pc), dI_ l i (r ++ s) = dI_ l i r ++ dI_ l (i + r.length) s
  | i, [], s => by simp [dI_]
  | i, x :: r, s => by
    rw [List.cons_append, dI_, hr_ l (i + 1) r s, dI_, List.length_cons, show i + 1 + r.length = i + (r.length + 1) by omega]
    split <;> simp
theorem iW_ {l : List Int} {p : List Pc} {i : Nat} {x : Pc} (h : p[i]? = some x) : dI_ l 0 (p.take (i + 1)) = dI_ l 0 (p.take i) ++ (if (i : Int) ∈ l then [] else [x]) := by
  have hi := (List.getElem?_eq_some_iff.1 h).1
  rw [List.take_add_one, h, Option.toList_some, hr_, List.length_take, Nat.min_eq_left (by omega), Nat.zero_add]
  simp only [dI_]
theorem hQ_ (l : List Int) : ∀ (i : Nat) (p : List Pc), ∀ x ∈ dI_ l i p, x ∈ p
  | _, [], x, h => by simp [dI_] at h
  | i, y :: r, x, h => by
    simp only [dI_] at h
    split at h
    · exact List.mem_cons_of_mem _ (hQ_ l (i + 1) r x h)
    · rcases List.mem_cons.1 h with rfl | h
      · exact List.mem_cons_self
      · exact List.mem_cons_of_mem _ (hQ_ l (i + 1) r x h)
theorem gD_ (l : List Int) : ∀ (i : Nat) (p : List Pc), (dI_ l i p).length ≤ p.length
  | _, [] => by simp [dI_]
  | i, y :: r => by
    have := gD_ l (i + 1) r
    simp only [dI_]
    split <;> simp only [List.length_cons] <;> omega
def gd_ (w : Wk) (l : List Int) (bu : Int) (x : Wk) (gone : List Fc) (e : Int) : Prop :=
  if ¬ (jz_ w.ps.length l ∧ 0 ≤ bu ∧ bu ≤ 1073741824) then x = Wk.no ∧ gone = [] ∧ e = 1
  else cV_ (dI_ l 0 w.ps) bu x e ∧ gone = if e = 0 then bQ_ w.cl.facts x.cl.facts else []
theorem gd_.good {w : Wk} {l : List Int} {bu : Int} {x : Wk} {g : List Fc} (h : gd_ w l bu x g 0) : jz_ w.ps.length l ∧ (0 ≤ bu ∧ bu ≤ 1073741824) ∧ cV_ (dI_ l 0 w.ps) bu x 0 ∧ g = bQ_ w.cl.facts x.cl.facts := by
  unfold gd_ at h
  split at h
  · exact absurd h.2.2 (by decide)
  · rename_i h1
    have h1 := Decidable.not_not.1 h1
    exact ⟨h1.1, h1.2, h.1, h.2⟩
theorem gd_.ok {w : Wk} {l : List Int} {bu : Int} {x : Wk} {g : List Fc} {e : Int} (h : gd_ w l bu x g e) : x.ok ∧ x.ps.length ≤ w.ps.length ∧ x.cl.atoms.length ≤ 3 * w.ps.length + 2 ∧ x.cl.facts.length ≤ 65536 ∧ g.length ≤ w.cl.facts.length := by
  unfold gd_ at h
  split at h
  · obtain ⟨rfl, rfl, _⟩ := h; exact ⟨Wk.no_ok, by simp [Wk.no], by simp [Wk.no, Cl.no], by simp [Wk.no, Cl.no], by simp⟩
  · obtain ⟨q1, q2, q3⟩ := h.1.len
    have := gD_ l 0 w.ps
    refine ⟨h.1.ok, by omega, by omega, q3, ?_⟩
    rw [h.2]
    split
    · exact gq_ _ _
    · simp
theorem la_ {p : List Pc} {bu : Int} {w : Wk} {e : Int} (h : cV_ p bu w e) (he : e ≠ 0) : cV_ p bu Wk.no e := by
  obtain ⟨c, h1, _, _⟩ := h
  exact ⟨c, h1, fun q => absurd q he, fun _ => rfl⟩
set_option maxHeartbeats 1000000 in
theorem add_c (w : Wk) (p : List Pc) (pad : Option Addr) (pcap : Nat) (bu : Int) (hsw : ∀ x ∈ w.ps, x.sm) (hw1 : w.ps.length ≤ w.pcap) (hw2 : w.pad = none → w.pcap = 0) (hw3 : w.ps.length ≤ 16384) (hw4 : w.cl.facts.length ≤ 100000000) (hsm : ∀ x ∈ p, x.sm) (hp1 : p.length ≤ pcap) (hp2 : pad = none → pcap = 0) (hp3 : p.length ≤ 100000) : Tri Tryz.prog 39 #[Wk.val w, .slice pad (List.length p) pcap, .int .i64 bu] [] [aC_ (Wk.pad w) (List.flatMap Pc.cells (Wk.ps w)), aC_ (Cl.aad (Wk.cl w)) (List.flatMap aM_ (Cl.atoms (Wk.cl w))), aC_ (Cl.fad (Wk.cl w)) (List.flatMap Fc.cells (Cl.facts (Wk.cl w))), aC_ pad (List.flatMap Pc.cells p), gK_] (fun y : {y : Wk × List Fc × Option Addr × Nat × Int // fX_ w p bu y.1 y.2.1 y.2.2.2.2 ∧ (y.2.1.length ≤ y.2.2.2.1 ∧ y.2.2.2.1 ≤ maxLen ∧ (y.2.2.1 = none → y.2.2.2.1 = 0))} => .tuple #[y.1.1.val, .slice y.1.2.2.1 y.1.2.1.length y.1.2.2.2.1, .int .i64 y.1.2.2.2.2]) (fun _ => []) (fun y => y.1.1.row ++ [aC_ y.1.2.2.1 (y.1.2.1.flatMap Fc.cells)]) := by
 refine R_ Tryz.func39 rfl rfl Tryz.ntmps39 rfl fun v0 => ?_
 refine h_ (c_ (bn_ rfl rfl fun b1 => ?_))
 refine ao_ cB_ rfl fun b2 => ?_
 refine a_ (g_ rfl) rfl (a_ (g_ rfl) rfl (d_ (b_ rfl (h_ (h_ (c_ (a_ (e_ rfl) rfl (V_ (kE_ p pad pcap (by omega) hsm) rfl I_ (fun v _ h => by exact ⟨h.2.2.2.1, h.2.2.2.2.1, trivial⟩) rfl fun _ => ?_))))))))
 refine a_ (g_ rfl) rfl (d_ (b_ rfl (h_ (c_ (a_ (e_ rfl) rfl (x_ (bN_ rfl rfl) rfl fun r1 hr1 => ?_))))))
 refine d_ (b_ rfl ?_)
 cases r1
 ·
  replace hr1 := bb_ hr1
  have hchk := hr1
  refine v_ rfl (B_ (b_ rfl (h_ (h_ (c_ (a_ (e_ rfl) rfl (au_ (jD_ bu) rfl I_ (fun _ _ _ => by exact trivial) rfl fun r2 hr2 => ?_)))))))
  refine a_ (bZ_ rfl) rfl (d_ (b_ rfl ?_))
  cases r2
  ·
   replace hr2 := of_decide_eq_false hr2
   refine u_ rfl (h_ (c_ (a_ (av_ eo_ rfl rfl) rfl (T_ 0 an_ rfl rfl rfl rfl rfl rfl (a_ (g_ rfl) rfl (a_ (g_ rfl) rfl (d_ (b_ rfl (E_ ?_)))))))))
   exact dn_ ⟨((Wk.mk [] none 0 (Cl.mk [] none 0 [] none 0)), ([] : List Fc), none, 0, 1), by unfold fX_; rw [if_neg (fun q => q hchk), if_pos (by assumption)]; exact ⟨rfl, rfl, rfl⟩, ⟨Nat.le_refl _, by simp, fun _ => rfl⟩⟩ (fun aa v h1 h2 => dN_ (us := Wk.cells (Wk.mk [] none 0 (Cl.mk [] none 0 [] none 0))) 0 gi_ bf_ an_ rfl rfl rfl rfl rfl aa v h1 h2) I_ (fun v _ h => by exact ⟨.inl rfl, .inl rfl, .inl rfl, .inl rfl, trivial⟩)
  ·
   replace hr2 := of_decide_eq_true hr2
   have hbu := hr2
   refine v_ rfl (B_ (b_ rfl (h_ (h_ (c_ (a_ (l_ aA_ rfl rfl rfl bC_) rfl (a_ (t_ 1 ci_ rfl rfl rfl) rfl (a_ (ak_ H_ rfl) rfl (a_ (e_ rfl) rfl ?_)))))))))
   refine a_ (ak_ H_ rfl) rfl (a_ (O_ rfl rfl rfl (af_ (by omega) (by omega))) rfl (x_ (cd_ rfl rfl) rfl fun r3 hr3 => ?_))
   refine d_ (b_ rfl ?_)
   cases r3
   ·
    replace hr3 := of_decide_eq_false hr3
    refine v_ rfl (B_ (b_ rfl (h_ (c_ (a_ (l_ aA_ rfl rfl rfl bC_) rfl (a_ (t_ 1 ci_ rfl rfl rfl) rfl (a_ (e_ rfl) rfl (aJ_ cJ_ bC_ ca_ rfl rfl rfl rfl rfl rfl fun b3 => ?_))))))))
    refine bw_ (List.flatMap PL.cells [(PL.mk (Wk.ps w) (Wk.pad w) (Wk.pcap w)), (PL.mk p pad pcap)]) i_ rfl ?_
    refine V_ (pi_ [(PL.mk (Wk.ps w) (Wk.pad w) (Wk.pcap w)), (PL.mk p pad pcap)] (some ⟨b3, 0, none⟩) 2 (fun y hy => by simp only [List.mem_cons, List.not_mem_nil, or_false] at hy; rcases hy with rfl | rfl; exact ⟨hw1, hw2, by dsimp only; omega⟩; exact ⟨hp1, hp2, by dsimp only; omega⟩) (by simp)) rfl I_ (fun v _ h => by refine ⟨h.1, fun y hy => ?_, trivial⟩; simp only [List.mem_cons, List.not_mem_nil, or_false] at hy; rcases hy with rfl | rfl; exact h.2.1; exact h.2.2.2.2.1) rfl fun ⟨⟨ccad, cccap⟩, hcc1, hcc2, hcc3⟩ => ?_
    dsimp only
    dsimp only at hcc1 hcc2 hcc3
    have eC : (dA_ [(PL.mk (Wk.ps w) (Wk.pad w) (Wk.pcap w)), (PL.mk p pad pcap)]) = w.ps ++ p := by simp [dA_]
    have hCl : List.length (dA_ [(PL.mk (Wk.ps w) (Wk.pad w) (Wk.pcap w)), (PL.mk p pad pcap)]) = w.ps.length + p.length := by rw [eC, List.length_append]
    refine a_ (e_ rfl) rfl (V_ (hk_ (dA_ [(PL.mk (Wk.ps w) (Wk.pad w) (Wk.pcap w)), (PL.mk p pad pcap)]) ccad cccap bu (fun y hy => by rw [eC] at hy; rcases List.mem_append.1 hy with h | h; exact hsw y h; exact hsm y h) (by omega) (by omega)) rfl I_ (fun v _ h => by exact ⟨h.1, h.2.2.2.2.2.2.1, trivial⟩) rfl fun ⟨⟨x1, e1⟩, hS1⟩ => ?_)
    dsimp only
    dsimp only at hS1
    have hlx1 := hS1.len
    refine a_ (e_ rfl) rfl (a_ (am_ rfl rfl) rfl (a_ (am_ rfl rfl) rfl (T_ 0 an_ rfl rfl rfl rfl rfl rfl (a_ (g_ rfl) rfl (d_ (b_ rfl (h_ (h_ (c_ ?_)))))))))
    refine a_ (e_ rfl) rfl (x_ (bN_ rfl rfl) rfl fun r4 hr4 => ?_)
    refine d_ (b_ rfl ?_)
    cases r4
    ·
     replace hr4 := bb_ hr4
     have he1 : e1 = 0 := hr4
     refine v_ rfl (B_ (b_ rfl (h_ (c_ (a_ (l_ aA_ rfl rfl rfl Z_) rfl (a_ (X_ 1 aU_ Z_ rfl rfl rfl) rfl (V_ (jn_ (Wk.cl w) (by omega)) rfl I_ (fun v _ h => by exact ⟨h.2.2.2.2.2.2.2.1, trivial⟩) rfl fun ⟨⟨mb, es, ce, q⟩, hE, hq⟩ => ?_)))))))
     dsimp only
     dsimp only at hE hq
     refine a_ (g_ rfl) rfl (d_ (b_ rfl (h_ ?_)))
     refine aS_ ((b1, .cells #[.slice (Wk.pad w) (List.length (Wk.ps w)) (Wk.pcap w), .slice (Cl.aad (Wk.cl w)) (List.length (Cl.atoms (Wk.cl w))) (Cl.acap (Wk.cl w)), .slice (Cl.fad (Wk.cl w)) (List.length (Cl.facts (Wk.cl w))) (Cl.fcap (Wk.cl w))] 50 (0, 0)) :: []) (by kernel_rfl) ?_
     refine ae_ 6 [1, 2, 4, 5] (by kernel_rfl) (fun _ a b => ⟨a.tail.tail, b⟩) (o_ rfl (l_ aA_ rfl rfl rfl Z_) rfl (o_ rfl (l_ aB_ rfl rfl rfl bs_) rfl (o_ rfl (e_ rfl) rfl (o_ rfl (cO_ rfl rfl) rfl (ad_ ?_)))))
     refine fm_ 0 3 rfl rfl (by kernel_rfl) ?_ ?_
     ·
      refine a_ (X_ 1 bf_ an_ rfl rfl rfl) rfl (d_ (w_ rfl (N_ (fun _ a b => ⟨a.tail.tail, b⟩) (W_ 3 rfl (by kernel_rfl) (a_ (t_ 1 bB_ rfl rfl rfl) rfl (d_ (w_ rfl (N_ (fun _ a b => ⟨a.tail.tail, b⟩) (W_ 6 rfl (by kernel_rfl) ?_)))))))))
      refine V_ (gp_ (Cl.facts (Wk.cl x1)) (Cl.fad (Wk.cl x1)) (Cl.fcap (Wk.cl x1)) mb es ce q hE (by omega)) rfl i_ (fun v _ h => by exact ⟨h.2.2.1, trivial⟩) rfl fun ⟨⟨nad, ncap⟩, hn1, hn2, hn3⟩ => ?_
      dsimp only
      dsimp only at hn1 hn2 hn3
      refine d_ (w_ rfl (N_ (fun _ a b => ⟨a.tail.tail, b.2⟩) (W_ 7 rfl (by kernel_rfl) (T_ 1 an_ rfl rfl rfl rfl rfl rfl (d_ (w_ rfl (N_ (fun _ a b => ⟨a.tail.tail, b.2⟩) (ae_ 0 [8, 9] (by kernel_rfl) (fun _ a b => ⟨a.tail.tail, b.2⟩) (o_ rfl (g_ rfl) rfl ?_)))))))))
      refine o_ rfl (g_ rfl) rfl (ad_ (ab_ (by kernel_rfl) (b_ rfl (E_ ?_))))
      exact dn_ ⟨(x1, (bQ_ (Cl.facts (Wk.cl x1)) q), nad, ncap, 0), by unfold fX_; rw [if_neg (fun q => q hchk), if_neg (fun q => q hbu), if_neg (by omega)]; rw [if_pos rfl]; exact ⟨eC ▸ he1 ▸ hS1, ed_ hq⟩, ⟨hn1, hn2, hn3⟩⟩ (fun aa v h1 h2 => dN_ (us := Wk.cells x1) 1 gi_ bf_ an_ rfl rfl rfl rfl rfl aa v h1 h2) I_ (fun v _ h => by exact ⟨h.2.1, h.2.2.1, h.2.2.2.1, h.1, trivial⟩)
     ·
      refine a_ (t_ 1 bB_ rfl rfl rfl) rfl (d_ (w_ rfl (N_ (fun _ a b => ⟨a.tail.tail, b⟩) ?_)))
      refine fm_ 0 6 rfl rfl (by kernel_rfl) ?_ ?_
      ·
       refine a_ (X_ 1 bf_ an_ rfl rfl rfl) rfl (d_ (w_ rfl (N_ (fun _ a b => ⟨a.tail.tail, b⟩) (W_ 6 rfl (by kernel_rfl) (V_ (gp_ (Cl.facts (Wk.cl x1)) (Cl.fad (Wk.cl x1)) (Cl.fcap (Wk.cl x1)) mb es ce q hE (by omega)) rfl i_ (fun v _ h => by exact ⟨h.2.2.1, trivial⟩) rfl fun ⟨⟨nad, ncap⟩, hn1, hn2, hn3⟩ => ?_)))))
       dsimp only
       dsimp only at hn1 hn2 hn3
       refine d_ (w_ rfl (N_ (fun _ a b => ⟨a.tail.tail, b.2⟩) (W_ 7 rfl (by kernel_rfl) (T_ 1 an_ rfl rfl rfl rfl rfl rfl (d_ (w_ rfl (N_ (fun _ a b => ⟨a.tail.tail, b.2⟩) (ae_ 0 [8, 9] (by kernel_rfl) (fun _ a b => ⟨a.tail.tail, b.2⟩) (o_ rfl (g_ rfl) rfl ?_)))))))))
       refine o_ rfl (g_ rfl) rfl (ad_ (ab_ (by kernel_rfl) (b_ rfl (E_ ?_))))
       exact dn_ ⟨(x1, (bQ_ (Cl.facts (Wk.cl x1)) q), nad, ncap, 0), by unfold fX_; rw [if_neg (fun q => q hchk), if_neg (fun q => q hbu), if_neg (by omega)]; rw [if_pos rfl]; exact ⟨eC ▸ he1 ▸ hS1, ed_ hq⟩, ⟨hn1, hn2, hn3⟩⟩ (fun aa v h1 h2 => dN_ (us := Wk.cells x1) 1 gi_ bf_ an_ rfl rfl rfl rfl rfl aa v h1 h2) I_ (fun v _ h => by exact ⟨h.2.1, h.2.2.1, h.2.2.2.1, h.1, trivial⟩)
      ·
       refine V_ (gp_ (Cl.facts (Wk.cl x1)) (Cl.fad (Wk.cl x1)) (Cl.fcap (Wk.cl x1)) mb es ce q hE (by omega)) rfl i_ (fun v _ h => by exact ⟨h.2.2.1, trivial⟩) rfl fun ⟨⟨nad, ncap⟩, hn1, hn2, hn3⟩ => ?_
       dsimp only
       dsimp only at hn1 hn2 hn3
       refine d_ (w_ rfl (N_ (fun _ a b => ⟨a.tail.tail, b.2⟩) (W_ 0 rfl (by kernel_rfl) (a_ (X_ 1 bf_ an_ rfl rfl rfl) rfl (d_ (w_ rfl (N_ (fun _ a b => ⟨a.tail.tail, b.2⟩) (W_ 7 rfl (by kernel_rfl) (T_ 1 an_ rfl rfl rfl rfl rfl rfl ?_)))))))))
       refine d_ (w_ rfl (N_ (fun _ a b => ⟨a.tail.tail, b.2⟩) (ae_ 0 [8, 9] (by kernel_rfl) (fun _ a b => ⟨a.tail.tail, b.2⟩) (o_ rfl (g_ rfl) rfl (o_ rfl (g_ rfl) rfl (ad_ (ab_ (by kernel_rfl) (b_ rfl (E_ ?_)))))))))
       exact dn_ ⟨(x1, (bQ_ (Cl.facts (Wk.cl x1)) q), nad, ncap, 0), by unfold fX_; rw [if_neg (fun q => q hchk), if_neg (fun q => q hbu), if_neg (by omega)]; rw [if_pos rfl]; exact ⟨eC ▸ he1 ▸ hS1, ed_ hq⟩, ⟨hn1, hn2, hn3⟩⟩ (fun aa v h1 h2 => dN_ (us := Wk.cells x1) 1 gi_ bf_ an_ rfl rfl rfl rfl rfl aa v h1 h2) I_ (fun v _ h => by exact ⟨h.2.1, h.2.2.1, h.2.2.2.1, h.1, trivial⟩)
    ·
     replace hr4 := ba_ hr4
     refine u_ rfl (h_ (c_ (a_ (av_ eo_ rfl rfl) rfl (a_ (e_ rfl) rfl (T_ 0 an_ rfl rfl rfl rfl rfl rfl (a_ (g_ rfl) rfl (a_ (g_ rfl) rfl (d_ (b_ rfl ?_)))))))))
     refine E_ ?_
     exact dn_ ⟨((Wk.mk [] none 0 (Cl.mk [] none 0 [] none 0)), ([] : List Fc), none, 0, e1), by unfold fX_; rw [if_neg (fun q => q hchk), if_neg (fun q => q hbu), if_neg (by omega)]; rw [if_neg (by assumption)]; exact ⟨(la_ (eC ▸ hS1) (by assumption)), rfl⟩, ⟨Nat.le_refl _, by simp, fun _ => rfl⟩⟩ (fun aa v h1 h2 => dN_ (us := Wk.cells (Wk.mk [] none 0 (Cl.mk [] none 0 [] none 0))) 0 gi_ bf_ an_ rfl rfl rfl rfl rfl aa v h1 h2) I_ (fun v _ h => by exact ⟨.inl rfl, .inl rfl, .inl rfl, .inl rfl, trivial⟩)
   ·
    replace hr3 := of_decide_eq_true hr3
    refine u_ rfl (h_ (c_ (a_ (av_ eo_ rfl rfl) rfl (T_ 0 an_ rfl rfl rfl rfl rfl rfl (a_ (g_ rfl) rfl (a_ (g_ rfl) rfl (d_ (b_ rfl (E_ ?_)))))))))
    exact dn_ ⟨((Wk.mk [] none 0 (Cl.mk [] none 0 [] none 0)), ([] : List Fc), none, 0, 2), by unfold fX_; rw [if_neg (fun q => q hchk), if_neg (fun q => q hbu), if_pos (by omega)]; exact ⟨rfl, rfl, rfl⟩, ⟨Nat.le_refl _, by simp, fun _ => rfl⟩⟩ (fun aa v h1 h2 => dN_ (us := Wk.cells (Wk.mk [] none 0 (Cl.mk [] none 0 [] none 0))) 0 gi_ bf_ an_ rfl rfl rfl rfl rfl aa v h1 h2) I_ (fun v _ h => by exact ⟨.inl rfl, .inl rfl, .inl rfl, .inl rfl, trivial⟩)
 ·
  replace hr1 := ba_ hr1
  refine u_ rfl (h_ (c_ (a_ (av_ eo_ rfl rfl) rfl (a_ (e_ rfl) rfl (T_ 0 an_ rfl rfl rfl rfl rfl rfl (a_ (g_ rfl) rfl (a_ (g_ rfl) rfl (d_ (b_ rfl ?_)))))))))
  refine E_ ?_
  exact dn_ ⟨((Wk.mk [] none 0 (Cl.mk [] none 0 [] none 0)), ([] : List Fc), none, 0, (bK_ p)), by unfold fX_; rw [if_pos (by assumption)]; exact ⟨rfl, rfl, rfl⟩, ⟨Nat.le_refl _, by simp, fun _ => rfl⟩⟩ (fun aa v h1 h2 => dN_ (us := Wk.cells (Wk.mk [] none 0 (Cl.mk [] none 0 [] none 0))) 0 gi_ bf_ an_ rfl rfl rfl rfl rfl aa v h1 h2) I_ (fun v _ h => by exact ⟨.inl rfl, .inl rfl, .inl rfl, .inl rfl, trivial⟩)
end Go.Proofs.YtpdbbglpbngeiaaGreatDoor
namespace Go.Proofs.YtpdbbglpbngeiaaGreatDoor
open Go Go.Sx Go.Proofs
attribute [local irreducible] Code.wp wpList wpAnyH
open Go.Vs
set_option maxHeartbeats 1000000 in
theorem lo_ (w : Wk) (wh : List Int) (had : Option Addr) (hcap : Nat) (bu : Int) (hsw : ∀ x ∈ w.ps, x.sm) (hw1 : w.ps.length ≤ w.pcap) (hw2 : w.pad = none → w.pcap = 0) (hw3 : w.ps.length ≤ 16384) (hw4 : w.cl.facts.length ≤ 100000000) (hwl : wh.length ≤ 100000000) : Tri Tryz.prog 41 #[Wk.val w, .slice had (List.length wh) hcap, .int .i64 bu] [] [aC_ (Wk.pad w) (List.flatMap Pc.cells (Wk.ps w)), aC_ (Cl.aad (Wk.cl w)) (List.flatMap aM_ (Cl.atoms (Wk.cl w))), aC_ (Cl.fad (Wk.cl w)) (List.flatMap Fc.cells (Cl.facts (Wk.cl w))), aC_ had (List.flatMap kv_ wh), gK_] (fun y : {y : Wk × List Fc × Option Addr × Nat × Int // gd_ w wh bu y.1 y.2.1 y.2.2.2.2 ∧ (y.2.1.length ≤ y.2.2.2.1 ∧ y.2.2.2.1 ≤ maxLen ∧ (y.2.2.1 = none → y.2.2.2.1 = 0))} => .tuple #[y.1.1.val, .slice y.1.2.2.1 y.1.2.1.length y.1.2.2.2.1, .int .i64 y.1.2.2.2.2]) (fun _ => []) (fun y => y.1.1.row ++ [aC_ y.1.2.2.1 (y.1.2.1.flatMap Fc.cells)]) := by
 refine R_ Tryz.func41 rfl rfl Tryz.ntmps41 rfl fun v0 => ?_
 refine h_ (c_ (bn_ rfl rfl fun b1 => ?_))
 refine ao_ cB_ rfl fun b2 => ?_
 refine a_ (g_ rfl) rfl (a_ (g_ rfl) rfl (d_ (b_ rfl (h_ (c_ (dC_ rfl fun b3 => ?_))))))
 refine a_ (g_ rfl) rfl (d_ (b_ rfl (h_ (h_ (c_ (a_ (e_ rfl) rfl (a_ (ak_ dz_ rfl) rfl (a_ (e_ rfl) rfl (d_ ?_)))))))))
 refine b_ rfl (Q_ ?_)
 refine aG_ (ι := {y : Nat × Array MapEntry × Nat × List Int // y.1 ≤ List.length wh ∧ SetE (fun n : Int => Value.int .i64 n) y.2.1 y.2.2.2 ∧ (∀ f, f ∈ y.2.2.2 ↔ f ∈ List.take y.1 wh) ∧ (∀ x ∈ List.take y.1 wh, 0 ≤ x ∧ x < List.length (Wk.ps w)) ∧ (List.take y.1 wh).Pairwise (fun x y : Int => x < y)}) (fun y => [(2, .int .i64 bu), (3, zp_ b1 0), (6, zp_ b2 0), (7, .slice none 0 0), (9, .map (some b3)), (1, .slice had (List.length wh) hcap), (17, .slice had (List.length wh) hcap), (18, .int .i64 (List.length wh : Int)), (19, .int .i64 (y.1.1 : Int))]) (fun y => ((b3, .map y.1.2.1 y.1.2.2.1) :: ((b2, .cells #[.slice none 0 0, .slice none 0 0, .slice none 0 0] 50 (0, 0)) :: ((b1, .cells #[.slice (Wk.pad w) (List.length (Wk.ps w)) (Wk.pcap w), .slice (Cl.aad (Wk.cl w)) (List.length (Cl.atoms (Wk.cl w))) (Cl.acap (Wk.cl w)), .slice (Cl.fad (Wk.cl w)) (List.length (Cl.facts (Wk.cl w))) (Cl.fcap (Wk.cl w))] 50 (0, 0)) :: [])))) (fun y => [aC_ (Wk.pad w) (List.flatMap Pc.cells (Wk.ps w)), aC_ (Cl.aad (Wk.cl w)) (List.flatMap aM_ (Cl.atoms (Wk.cl w))), aC_ (Cl.fad (Wk.cl w)) (List.flatMap Fc.cells (Cl.facts (Wk.cl w))), aC_ had (List.flatMap kv_ wh), gK_]) (fun y => List.length wh - y.1.1) ⟨((0 : Nat), #[], 0, ([] : List Int)), by simp, SetE.nil, by simp, by simp, List.Pairwise.nil⟩ ⟨rfl, rfl, rfl, rfl, rfl, rfl, rfl, rfl, rfl, trivial⟩ (m_ i_ (m_ i_ i_)) (fun _ _ h => h) ?_
 rintro ⟨⟨i, es, ce, q⟩, hi, hE, hq, hb, hpw⟩
 dsimp only at hi hE hq hb hpw ⊢
 refine h_ (c_ (x_ (ax_ rfl rfl) rfl fun r1 hr1 => ?_))
 refine d_ (b_ rfl (h_ ?_))
 cases r1
 ·
  replace hr1 := of_decide_eq_false hr1
  rw [List.take_of_length_le (by omega)] at hq hb hpw
  have hokx : jz_ (Wk.ps w).length wh := ⟨hb, hpw⟩
  refine v_ rfl (at_ rfl (b_ rfl (h_ (h_ (c_ (a_ (e_ rfl) rfl (au_ (jD_ bu) rfl I_ (fun _ _ _ => by exact trivial) rfl fun r2 hr2 => ?_)))))))
  refine a_ (bZ_ rfl) rfl (d_ (b_ rfl ?_))
  cases r2
  ·
   replace hr2 := of_decide_eq_false hr2
   refine u_ rfl (h_ (c_ (a_ (av_ eo_ rfl rfl) rfl (T_ 1 an_ rfl rfl rfl rfl rfl rfl (a_ (g_ rfl) rfl (a_ (g_ rfl) rfl (d_ (b_ rfl (E_ ?_)))))))))
   exact dn_ ⟨((Wk.mk [] none 0 (Cl.mk [] none 0 [] none 0)), ([] : List Fc), none, 0, 1), by unfold gd_; rw [if_pos (fun z => absurd z.2 (by assumption))]; exact ⟨rfl, rfl, rfl⟩, ⟨Nat.le_refl _, by simp, fun _ => rfl⟩⟩ (fun aa v h1 h2 => dN_ (us := Wk.cells (Wk.mk [] none 0 (Cl.mk [] none 0 [] none 0))) 1 gh_ bf_ an_ rfl rfl rfl rfl rfl aa v h1 h2) I_ (fun v _ h => by exact ⟨.inl rfl, .inl rfl, .inl rfl, .inl rfl, trivial⟩)
  ·
   replace hr2 := of_decide_eq_true hr2
   have hbu := hr2
   refine v_ rfl (B_ (b_ rfl (h_ (c_ (a_ (g_ rfl) rfl (d_ (b_ rfl (h_ (h_ ?_)))))))))
   refine c_ (a_ (l_ aA_ rfl rfl rfl bC_) rfl (a_ (t_ 2 ci_ rfl rfl rfl) rfl (a_ (ak_ H_ rfl) rfl (a_ (e_ rfl) rfl (d_ (b_ rfl (Q_ ?_)))))))
   refine aG_ (ι := {y : Nat × Value × Hp // y.1 ≤ List.length (Wk.ps w) ∧ aR_ 47 10 y.2.1 (List.length (dI_ wh 0 (List.take y.1 (Wk.ps w)))) (List.flatMap Pc.cells (dI_ wh 0 (List.take y.1 (Wk.ps w)))) y.2.2}) (fun y => [(2, .int .i64 bu), (3, zp_ b1 0), (6, zp_ b2 0), (7, .slice none 0 0), (9, .map (some b3)), (12, y.1.2.1), (55, .slice (Wk.pad w) (List.length (Wk.ps w)) (Wk.pcap w)), (56, .int .i64 (List.length (Wk.ps w) : Int)), (57, .int .i64 (y.1.1 : Int))]) (fun y => ((b3, .map es ce) :: ((b2, .cells #[.slice none 0 0, .slice none 0 0, .slice none 0 0] 50 (0, 0)) :: ((b1, .cells #[.slice (Wk.pad w) (List.length (Wk.ps w)) (Wk.pcap w), .slice (Cl.aad (Wk.cl w)) (List.length (Cl.atoms (Wk.cl w))) (Cl.acap (Wk.cl w)), .slice (Cl.fad (Wk.cl w)) (List.length (Cl.facts (Wk.cl w))) (Cl.fcap (Wk.cl w))] 50 (0, 0)) :: y.1.2.2)))) (fun y => [aC_ (Wk.pad w) (List.flatMap Pc.cells (Wk.ps w)), aC_ (Cl.aad (Wk.cl w)) (List.flatMap aM_ (Cl.atoms (Wk.cl w))), aC_ (Cl.fad (Wk.cl w)) (List.flatMap Fc.cells (Cl.facts (Wk.cl w))), aC_ had (List.flatMap kv_ wh), gK_]) (fun y => List.length (Wk.ps w) - y.1.1) ⟨((0 : Nat), (.slice none 0 0), []), by simp, (aR_.nil _ _)⟩ ⟨rfl, rfl, rfl, rfl, rfl, rfl, rfl, rfl, rfl, trivial⟩ (m_ i_ (m_ i_ i_)) (fun _ _ h => h) ?_
   rintro ⟨⟨k, sv_Rpc, H_Rpc⟩, hk, hr_Rpc⟩
   dsimp only at hk hr_Rpc ⊢
   have hkl := gD_ wh 0 (List.take k (Wk.ps w))
   rw [List.length_take] at hkl
   refine h_ (c_ (x_ (ax_ rfl rfl) rfl fun r3 hr3 => ?_))
   refine d_ (b_ rfl (h_ ?_))
   cases r3
   ·
    replace hr3 := of_decide_eq_false hr3
    rw [List.take_of_length_le (by omega)] at hr_Rpc
    have hkl2 := gD_ wh 0 (Wk.ps w)
    refine v_ rfl (at_ rfl (b_ rfl (h_ (c_ (a_ (e_ rfl) rfl (a_ (e_ rfl) rfl (bt_ hr_Rpc (f_ (f_ S_)) fun rad rcap hrad hcrad hmrad hzrad => ?_)))))))
    subst hrad
    refine V_ (hk_ (dI_ wh 0 (Wk.ps w)) rad rcap bu (fun y hy => hsw y (hQ_ _ _ _ y hy)) (by omega) (by omega)) rfl I_ (fun v _ h => by exact ⟨h.1, h.2.2.2.2.2.1, trivial⟩) rfl fun ⟨⟨x1w, e1⟩, hS1⟩ => ?_
    dsimp only
    dsimp only at hS1
    have hlx1w := hS1.len
    refine a_ (e_ rfl) rfl (a_ (am_ rfl rfl) rfl (a_ (am_ rfl rfl) rfl (T_ 1 an_ rfl rfl rfl rfl rfl rfl (a_ (g_ rfl) rfl (d_ (b_ rfl (h_ (h_ (c_ ?_)))))))))
    refine a_ (e_ rfl) rfl (x_ (bN_ rfl rfl) rfl fun r4 hr4 => ?_)
    refine d_ (b_ rfl ?_)
    cases r4
    ·
     replace hr4 := bb_ hr4
     have he1 : e1 = 0 := hr4
     refine v_ rfl (B_ (b_ rfl (h_ (c_ (a_ (l_ aA_ rfl rfl rfl Z_) rfl (a_ (X_ 1 aU_ Z_ rfl rfl rfl) rfl (V_ (jn_ (Wk.cl x1w) (by omega)) rfl I_ (fun v _ h => by exact ⟨h.2.2.1, trivial⟩) rfl fun ⟨⟨mb9, es9, ce9, q9⟩, hE9, hq9⟩ => ?_)))))))
     dsimp only
     dsimp only at hE9 hq9
     refine a_ (g_ rfl) rfl (d_ (b_ rfl (h_ ?_)))
     refine aS_ ((b3, .map es ce) :: ((b1, .cells #[.slice (Wk.pad w) (List.length (Wk.ps w)) (Wk.pcap w), .slice (Cl.aad (Wk.cl w)) (List.length (Cl.atoms (Wk.cl w))) (Cl.acap (Wk.cl w)), .slice (Cl.fad (Wk.cl w)) (List.length (Cl.facts (Wk.cl w))) (Cl.fcap (Wk.cl w))] 50 (0, 0)) :: [])) (by kernel_rfl) ?_
     refine ae_ 5 [1, 2, 3, 4, 5] (by kernel_rfl) (fun _ a b => ⟨Vw.sat.sub (a.perm (m_ (f_ i_) (f_ (f_ i_)))), b⟩) (o_ rfl (l_ aA_ rfl rfl rfl Z_) rfl (o_ rfl (l_ aB_ rfl rfl rfl bs_) rfl (o_ rfl (t_ 1 bB_ rfl rfl rfl) rfl (o_ rfl (e_ rfl) rfl (o_ rfl (cO_ rfl rfl) rfl (ad_ ?_))))))
     refine fm_ 0 6 rfl rfl (by kernel_rfl) ?_ ?_
     ·
      refine a_ (X_ 2 bf_ an_ rfl rfl rfl) rfl (d_ (w_ rfl (N_ (fun _ a b => ⟨Vw.sat.sub (a.perm (m_ (f_ i_) (f_ (f_ i_)))), b⟩) (W_ 6 rfl (by kernel_rfl) (V_ (gp_ (Cl.facts (Wk.cl w)) (Cl.fad (Wk.cl w)) (Cl.fcap (Wk.cl w)) mb9 es9 ce9 q9 hE9 (by omega)) rfl i_ (fun v _ h => by exact ⟨h.2.2.2.2.2.2.1, trivial⟩) rfl fun ⟨⟨nad, ncap⟩, hn1, hn2, hn3⟩ => ?_)))))
      dsimp only
      dsimp only at hn1 hn2 hn3
      refine d_ (w_ rfl (N_ (fun _ a b => ⟨Vw.sat.sub (a.perm (m_ (f_ i_) (f_ (f_ i_)))), b.2⟩) (W_ 7 rfl (by kernel_rfl) (T_ 2 an_ rfl rfl rfl rfl rfl rfl (d_ (w_ rfl (N_ (fun _ a b => ⟨Vw.sat.sub (a.perm (m_ (f_ i_) (f_ (f_ i_)))), b.2⟩) (ae_ 0 [8, 9] (by kernel_rfl) (fun _ a b => ⟨Vw.sat.sub (a.perm (m_ (f_ i_) (f_ (f_ i_)))), b.2⟩) (o_ rfl (g_ rfl) rfl ?_)))))))))
      refine o_ rfl (g_ rfl) rfl (ad_ (ab_ (by kernel_rfl) (b_ rfl (E_ ?_))))
      exact dn_ ⟨(x1w, (bQ_ (Cl.facts (Wk.cl w)) q9), nad, ncap, 0), by unfold gd_; rw [if_neg (fun z => z ⟨hokx, hbu⟩)]; rw [if_pos rfl]; exact ⟨he1 ▸ hS1, ed_ hq9⟩, ⟨hn1, hn2, hn3⟩⟩ (fun aa v h1 h2 => dN_ (us := Wk.cells x1w) 2 gh_ bf_ an_ rfl rfl rfl rfl rfl aa v h1 h2) I_ (fun v _ h => by exact ⟨h.2.1, h.2.2.1, h.2.2.2.1, h.1, trivial⟩)
     ·
      refine V_ (gp_ (Cl.facts (Wk.cl w)) (Cl.fad (Wk.cl w)) (Cl.fcap (Wk.cl w)) mb9 es9 ce9 q9 hE9 (by omega)) rfl i_ (fun v _ h => by exact ⟨h.2.2.2.2.2.2.1, trivial⟩) rfl fun ⟨⟨nad, ncap⟩, hn1, hn2, hn3⟩ => ?_
      dsimp only
      dsimp only at hn1 hn2 hn3
      refine d_ (w_ rfl (N_ (fun _ a b => ⟨Vw.sat.sub (a.perm (m_ (f_ i_) (f_ (f_ i_)))), b.2⟩) (W_ 0 rfl (by kernel_rfl) (a_ (X_ 2 bf_ an_ rfl rfl rfl) rfl (d_ (w_ rfl (N_ (fun _ a b => ⟨Vw.sat.sub (a.perm (m_ (f_ i_) (f_ (f_ i_)))), b.2⟩) (W_ 7 rfl (by kernel_rfl) (T_ 2 an_ rfl rfl rfl rfl rfl rfl ?_)))))))))
      refine d_ (w_ rfl (N_ (fun _ a b => ⟨Vw.sat.sub (a.perm (m_ (f_ i_) (f_ (f_ i_)))), b.2⟩) (ae_ 0 [8, 9] (by kernel_rfl) (fun _ a b => ⟨Vw.sat.sub (a.perm (m_ (f_ i_) (f_ (f_ i_)))), b.2⟩) (o_ rfl (g_ rfl) rfl (o_ rfl (g_ rfl) rfl (ad_ (ab_ (by kernel_rfl) (b_ rfl (E_ ?_)))))))))
      exact dn_ ⟨(x1w, (bQ_ (Cl.facts (Wk.cl w)) q9), nad, ncap, 0), by unfold gd_; rw [if_neg (fun z => z ⟨hokx, hbu⟩)]; rw [if_pos rfl]; exact ⟨he1 ▸ hS1, ed_ hq9⟩, ⟨hn1, hn2, hn3⟩⟩ (fun aa v h1 h2 => dN_ (us := Wk.cells x1w) 2 gh_ bf_ an_ rfl rfl rfl rfl rfl aa v h1 h2) I_ (fun v _ h => by exact ⟨h.2.1, h.2.2.1, h.2.2.2.1, h.1, trivial⟩)
    ·
     replace hr4 := ba_ hr4
     refine u_ rfl (h_ (c_ (a_ (av_ eo_ rfl rfl) rfl (a_ (e_ rfl) rfl (T_ 1 an_ rfl rfl rfl rfl rfl rfl (a_ (g_ rfl) rfl (a_ (g_ rfl) rfl (d_ (b_ rfl ?_)))))))))
     refine E_ ?_
     exact dn_ ⟨((Wk.mk [] none 0 (Cl.mk [] none 0 [] none 0)), ([] : List Fc), none, 0, e1), by unfold gd_; rw [if_neg (fun z => z ⟨hokx, hbu⟩)]; rw [if_neg (by assumption)]; exact ⟨la_ hS1 (by assumption), rfl⟩, ⟨Nat.le_refl _, by simp, fun _ => rfl⟩⟩ (fun aa v h1 h2 => dN_ (us := Wk.cells (Wk.mk [] none 0 (Cl.mk [] none 0 [] none 0))) 1 gh_ bf_ an_ rfl rfl rfl rfl rfl aa v h1 h2) I_ (fun v _ h => by exact ⟨.inl rfl, .inl rfl, .inl rfl, .inl rfl, trivial⟩)
   ·
    replace hr3 := of_decide_eq_true hr3
    have hlx2 : k < List.length (Wk.ps w) := by omega
    obtain ⟨x2, hx2⟩ : ∃ e0, (Wk.ps w)[k]? = some e0 := ⟨_, List.getElem?_eq_getElem hlx2⟩
    have hmx2 : x2 ∈ (Wk.ps w) := List.mem_of_getElem? hx2
    refine u_ rfl (B_ (b_ rfl (h_ (Q_ (h_ (c_ (a_ (e_ rfl) rfl (a_ (aa_ H_ L_ rfl rfl (fun v _ h => az_ (n := 10) Pc.cells_len (by decide) (by exact h.1) hx2) (by omega) (by first | omega | (simp; done))) rfl (a_ (aT_ (ad := (Wk.pad w)) (us := Pc.cells x2) aH_ L_ rfl (fun v _ h => by exact h.1) (Pc.cells_len _) (ac_ Pc.cells_len hx2)) rfl ?_)))))))))
    refine ao_ bd_ rfl fun b4 => ?_
    refine a_ (g_ rfl) rfl (T_ 0 L_ rfl rfl rfl rfl rfl rfl (d_ (b_ rfl (h_ (c_ (a_ (e_ rfl) rfl (a_ (e_ rfl) rfl (x_ (ej_ (k := (k : Int)) keyI Tryz.runUnderlying127 dJ_ rfl rfl hE (fun v h _ => (h.own _ (List.mem_of_getElem? (i := 1) rfl)).1)) rfl fun r5 hr5 => ?_))))))))
    refine a_ (bZ_ rfl) rfl (d_ (b_ rfl ?_))
    cases r5
    ·
     replace hr5 := dF hr5
     refine u_ rfl (c_ (a_ (e_ rfl) rfl (a_ (X_ 0 aH_ L_ rfl rfl rfl) rfl (aJ_ H_ L_ bd_ rfl rfl rfl rfl rfl rfl fun b5 => ?_))))
     refine br_ (news := List.flatMap Pc.cells [x2]) gW_ hr_Rpc rfl rfl (f_ (f_ (f_ (f_ S_)))) rfl (cK_ 0 rfl) (fun u hu => aN_ Pc.cells_one hu) (by simp only [maxLen]; ((try simp only [List.length_append, List.length_cons, List.length_nil]); omega)) (by ((try simp only [List.length_append, List.length_cons, List.length_nil]); omega)) rfl fun sv1 Hr1 hr1 => ?_
     refine al_ List.perm_append_comm ?_
     have hq1 : aR_ 47 10 sv1 (List.length ((dI_ wh 0 (List.take k (Wk.ps w))) ++ [x2])) (List.flatMap Pc.cells ((dI_ wh 0 (List.take k (Wk.ps w))) ++ [x2])) Hr1 := by rw [List.length_append, List.flatMap_append]; exact hr1
     refine a_ (g_ rfl) rfl (d_ (b_ rfl (c_ (a_ (O_ rfl rfl rfl (af_ (by omega) (by omega))) rfl (a_ (e_ rfl) rfl (d_ (w_ rfl ?_)))))))
     exact Y_ ⟨(k + 1, sv1, Hr1), hlx2, (by rw [iW_ hx2, if_neg (fun z => absurd ((hq _).2 z) (by assumption))]; exact hq1)⟩ (by dsimp only; omega) ⟨rfl, rfl, rfl, rfl, rfl, rfl, rfl, rfl, rfl, trivial⟩ (m_ (f_ (f_ i_)) (m_ (f_ (f_ i_)) (m_ (f_ (f_ i_)) (f_ S_)))) (fun _ _ h => h)
    ·
     replace hr5 := dT hr5
     refine v_ rfl (B_ (b_ rfl (c_ (a_ (O_ rfl rfl rfl (af_ (by omega) (by omega))) rfl (a_ (e_ rfl) rfl (d_ (w_ rfl ?_)))))))
     exact Y_ ⟨(k + 1, sv_Rpc, H_Rpc), hlx2, (by rw [iW_ hx2, if_pos ((hq _).1 (by assumption)), List.append_nil]; exact hr_Rpc)⟩ (by dsimp only; omega) ⟨rfl, rfl, rfl, rfl, rfl, rfl, rfl, rfl, rfl, trivial⟩ (m_ (f_ i_) (m_ (f_ i_) (m_ (f_ i_) S_))) (fun _ _ h => h)
 ·
  replace hr1 := of_decide_eq_true hr1
  have hlx1 : i < List.length wh := by omega
  obtain ⟨x1, hx1⟩ : ∃ e0, wh[i]? = some e0 := ⟨_, List.getElem?_eq_getElem hlx1⟩
  have hmx1 : x1 ∈ wh := List.mem_of_getElem? hx1
  refine u_ rfl (B_ (b_ rfl (h_ (Q_ (h_ (c_ (a_ (e_ rfl) rfl (a_ (aa_ dz_ K_ rfl rfl (fun v _ h => az_ (n := 1) fz_ (by decide) (by exact h.2.2.2.1) hx1) (by omega) (by first | omega | (simp; done))) rfl (a_ (aL_ (ad := had) P_ rfl (fun v _ h => by exact h.2.2.2.1) (ac_ fz_ hx1 0 _ rfl)) rfl ?_)))))))))
  refine a_ (g_ rfl) rfl (a_ (g_ rfl) rfl (d_ (b_ rfl (h_ (h_ (c_ (a_ (e_ rfl) rfl (x_ (ax_ rfl rfl) rfl fun r6 hr6 => ?_))))))))
  refine a_ (e_ rfl) rfl ?_
  cases r6
  ·
   replace hr6 := of_decide_eq_false hr6
   refine p_ rfl rfl (a_ (e_ rfl) rfl (p_ rfl rfl (a_ (l_ aA_ rfl rfl rfl bC_) rfl (p_ rfl rfl (a_ (t_ 2 ci_ rfl rfl rfl) rfl (p_ rfl rfl (a_ (ak_ H_ rfl) rfl (p_ rfl rfl (x_ (cC_ rfl rfl) rfl fun r7 hr7 => ?_)))))))))
   refine a_ (A_ rfl rfl) rfl (a_ (e_ rfl) rfl ?_)
   cases r7
   ·
    replace hr7 := of_decide_eq_false hr7
    refine p_ rfl rfl (a_ (e_ rfl) rfl (p_ rfl rfl (x_ (cd_ rfl rfl) rfl fun r8 hr8 => ?_)))
    refine p_ rfl rfl (a_ (e_ rfl) rfl ?_)
    cases r8
    ·
     replace hr8 := of_decide_eq_false hr8
     refine r_ rfl rfl rfl rfl (r_ rfl rfl rfl rfl (r_ rfl rfl rfl rfl (r_ rfl rfl rfl rfl (r_ rfl rfl rfl rfl (r_ rfl rfl rfl rfl (r_ rfl rfl rfl rfl (p_ rfl rfl (a_ (A_ rfl rfl) rfl (a_ (A_ rfl rfl) rfl ?_)))))))))
     refine d_ (b_ rfl (v_ rfl (B_ (b_ rfl (c_ (a_ (e_ rfl) rfl (a_ (e_ rfl) rfl (fu_ (k := x1) 0 keyI (.inr rfl) Tryz.runUnderlying127 rfl rfl rfl rfl hE fun ej1 cj1 hj1 => ?_))))))))
     refine d_ (b_ rfl (c_ (a_ (O_ rfl rfl rfl (af_ (by omega) (by omega))) rfl (a_ (e_ rfl) rfl (d_ (w_ rfl ?_))))))
     exact Y_ ⟨(i + 1, ej1, cj1, (if x1 ∈ q then q else q ++ [x1])), hlx1, hj1, iR_ hq hx1, fun x hx => by rw [List.take_add_one, hx1] at hx; simp only [Option.toList_some, List.mem_append, List.mem_singleton] at hx; rcases hx with hx | rfl; exact hb x hx; omega, mR_ (lt := fun x y : Int => x < y) Int.lt_trans hpw hx1 (fun a hja ha => by omega)⟩ (by dsimp only; omega) ⟨rfl, rfl, rfl, rfl, rfl, rfl, rfl, rfl, rfl, trivial⟩ (m_ i_ (m_ i_ i_)) (fun _ _ h => h)
    ·
     replace hr8 := of_decide_eq_true hr8
     have hly1 : (i - 1 : Nat) < List.length wh := by omega
     obtain ⟨y1, hy1⟩ : ∃ e0, wh[(i - 1 : Nat)]? = some e0 := ⟨_, List.getElem?_eq_getElem hly1⟩
     have hmy1 : y1 ∈ wh := List.mem_of_getElem? hy1
     refine p_ rfl rfl (a_ (e_ rfl) rfl (p_ rfl rfl (a_ (e_ rfl) rfl (p_ rfl rfl (a_ (bA_ (O_ rfl rfl rfl (af_ (by omega) (by omega))) (show Value.int .i64 ((i : Int) - 1) = Value.int .i64 ((i - 1 : Nat) : Int) from congrArg _ (by omega))) rfl (p_ rfl rfl (a_ (aa_ dz_ K_ rfl rfl (fun v _ h => az_ (n := 1) fz_ (by decide) (by exact h.2.2.2.1) hy1) (by omega) (by first | omega | (simp; done))) rfl (p_ rfl rfl (a_ (aL_ (ad := had) P_ rfl (fun v _ h => by exact h.2.2.2.1) (ac_ fz_ hy1 0 _ rfl)) rfl ?_)))))))))
     refine p_ rfl rfl (a_ (e_ rfl) rfl (p_ rfl rfl (x_ (cC_ rfl rfl) rfl fun r9 hr9 => ?_)))
     refine p_ rfl rfl (a_ (G_ rfl rfl) rfl (a_ (A_ rfl rfl) rfl (d_ (b_ rfl ?_))))
     cases r9
     ·
      replace hr9 := of_decide_eq_false hr9
      refine v_ rfl (B_ (b_ rfl (c_ (a_ (e_ rfl) rfl (a_ (e_ rfl) rfl (fu_ (k := x1) 0 keyI (.inr rfl) Tryz.runUnderlying127 rfl rfl rfl rfl hE fun ej2 cj2 hj2 => ?_))))))
      refine d_ (b_ rfl (c_ (a_ (O_ rfl rfl rfl (af_ (by omega) (by omega))) rfl (a_ (e_ rfl) rfl (d_ (w_ rfl ?_))))))
      exact Y_ ⟨(i + 1, ej2, cj2, (if x1 ∈ q then q else q ++ [x1])), hlx1, hj2, iR_ hq hx1, fun x hx => by rw [List.take_add_one, hx1] at hx; simp only [Option.toList_some, List.mem_append, List.mem_singleton] at hx; rcases hx with hx | rfl; exact hb x hx; omega, mR_ (lt := fun x y : Int => x < y) Int.lt_trans hpw hx1 (fun a hja ha => by rw [hy1] at ha; cases ha; omega)⟩ (by dsimp only; omega) ⟨rfl, rfl, rfl, rfl, rfl, rfl, rfl, rfl, rfl, trivial⟩ (m_ i_ (m_ i_ i_)) (fun _ _ h => h)
     ·
      replace hr9 := of_decide_eq_true hr9
      refine u_ rfl (h_ (c_ (a_ (av_ eo_ rfl rfl) rfl (T_ 1 an_ rfl rfl rfl rfl rfl rfl (a_ (g_ rfl) rfl (a_ (g_ rfl) rfl (d_ (b_ rfl (E_ ?_)))))))))
      exact dn_ ⟨((Wk.mk [] none 0 (Cl.mk [] none 0 [] none 0)), ([] : List Fc), none, 0, 1), by unfold gd_; rw [if_pos (fun z => by first | (have := (z.1.1 x1 hmx1); omega) | exact oA_ (lt := fun x y : Int => x < y) (by omega) hy1 hx1 (by omega) z.1.2)]; exact ⟨rfl, rfl, rfl⟩, ⟨Nat.le_refl _, by simp, fun _ => rfl⟩⟩ (fun aa v h1 h2 => dN_ (us := Wk.cells (Wk.mk [] none 0 (Cl.mk [] none 0 [] none 0))) 1 gh_ bf_ an_ rfl rfl rfl rfl rfl aa v h1 h2) I_ (fun v _ h => by exact ⟨.inl rfl, .inl rfl, .inl rfl, .inl rfl, trivial⟩)
   ·
    replace hr7 := of_decide_eq_true hr7
    refine r_ rfl rfl rfl rfl (r_ rfl rfl rfl rfl (r_ rfl rfl rfl rfl (r_ rfl rfl rfl rfl (r_ rfl rfl rfl rfl (r_ rfl rfl rfl rfl (r_ rfl rfl rfl rfl (r_ rfl rfl rfl rfl (r_ rfl rfl rfl rfl (r_ rfl rfl rfl rfl ?_)))))))))
    refine r_ rfl rfl rfl rfl (a_ (G_ rfl rfl) rfl (d_ (b_ rfl (u_ rfl (h_ (c_ (a_ (av_ eo_ rfl rfl) rfl (T_ 1 an_ rfl rfl rfl rfl rfl rfl (a_ (g_ rfl) rfl ?_)))))))))
    refine a_ (g_ rfl) rfl (d_ (b_ rfl (E_ ?_)))
    exact dn_ ⟨((Wk.mk [] none 0 (Cl.mk [] none 0 [] none 0)), ([] : List Fc), none, 0, 1), by unfold gd_; rw [if_pos (fun z => by first | (have := (z.1.1 x1 hmx1); omega) | exact oA_ (lt := fun x y : Int => x < y) (by omega) hy1 hx1 (by omega) z.1.2)]; exact ⟨rfl, rfl, rfl⟩, ⟨Nat.le_refl _, by simp, fun _ => rfl⟩⟩ (fun aa v h1 h2 => dN_ (us := Wk.cells (Wk.mk [] none 0 (Cl.mk [] none 0 [] none 0))) 1 gh_ bf_ an_ rfl rfl rfl rfl rfl aa v h1 h2) I_ (fun v _ h => by exact ⟨.inl rfl, .inl rfl, .inl rfl, .inl rfl, trivial⟩)
  ·
   replace hr6 := of_decide_eq_true hr6
   refine r_ rfl rfl rfl rfl (r_ rfl rfl rfl rfl (r_ rfl rfl rfl rfl (r_ rfl rfl rfl rfl (r_ rfl rfl rfl rfl (a_ (G_ rfl rfl) rfl (a_ (e_ rfl) rfl (r_ rfl rfl rfl rfl (r_ rfl rfl rfl rfl (r_ rfl rfl rfl rfl ?_)))))))))
   refine r_ rfl rfl rfl rfl (r_ rfl rfl rfl rfl (r_ rfl rfl rfl rfl (r_ rfl rfl rfl rfl (r_ rfl rfl rfl rfl (r_ rfl rfl rfl rfl (r_ rfl rfl rfl rfl (r_ rfl rfl rfl rfl (a_ (G_ rfl rfl) rfl (d_ ?_)))))))))
   refine b_ rfl (u_ rfl (h_ (c_ (a_ (av_ eo_ rfl rfl) rfl (T_ 1 an_ rfl rfl rfl rfl rfl rfl (a_ (g_ rfl) rfl (a_ (g_ rfl) rfl (d_ (b_ rfl ?_)))))))))
   refine E_ ?_
   exact dn_ ⟨((Wk.mk [] none 0 (Cl.mk [] none 0 [] none 0)), ([] : List Fc), none, 0, 1), by unfold gd_; rw [if_pos (fun z => by first | (have := (z.1.1 x1 hmx1); omega) | exact oA_ (lt := fun x y : Int => x < y) (by omega) hy1 hx1 (by omega) z.1.2)]; exact ⟨rfl, rfl, rfl⟩, ⟨Nat.le_refl _, by simp, fun _ => rfl⟩⟩ (fun aa v h1 h2 => dN_ (us := Wk.cells (Wk.mk [] none 0 (Cl.mk [] none 0 [] none 0))) 1 gh_ bf_ an_ rfl rfl rfl rfl rfl aa v h1 h2) I_ (fun v _ h => by exact ⟨.inl rfl, .inl rfl, .inl rfl, .inl rfl, trivial⟩)
end Go.Proofs.YtpdbbglpbngeiaaGreatDoor
namespace Go.Proofs.YtpdbbglpbngeiaaGreatDoor
open Go Go.Sx Go.Proofs
attribute [local irreducible] Code.wp wpList wpAnyH
open Go.Vs
theorem nb_ (p : List Pc) (pad : Option Addr) (pcap : Nat) (hp : p.length ≤ 1099511627776) (hbig : ∀ x ∈ p, x.big) : Tri Tryz.prog 31 #[.slice pad (List.length p) pcap] [] [aC_ pad (List.flatMap Pc.cells p)] (fun b : {b : Bool // b = true → p.length ≤ 30 ∧ ∀ x ∈ p, x.sm} => .bool b.1) (fun _ => []) (fun _ => []) := by
  refine R_ Tryz.func31 rfl rfl Tryz.ntmps31 rfl fun v0 => ?_
  refine h_ (c_ (a_ (g_ rfl) rfl (d_ (b_ rfl (h_ (c_ (a_ (g_ rfl) rfl (d_ (b_ rfl ?_)))))))))
  refine h_ (h_ (c_ (a_ (e_ rfl) rfl (a_ (ak_ H_ rfl) rfl (a_ (e_ rfl) rfl (d_ (b_ rfl (Q_ ?_))))))))
  refine aG_ (ι := {y : Nat × Int // y.1 ≤ List.length p ∧ (List.length p ≤ 30 → y.2 = gc_ (List.take y.1 p))}) (fun y => [(0, .slice pad (List.length p) pcap), (3, .int .i64 y.1.2), (6, .slice pad (List.length p) pcap), (7, .int .i64 (List.length p : Int)), (8, .int .i64 (y.1.1 : Int))]) (fun y => ([])) (fun y => [aC_ pad (List.flatMap Pc.cells p)]) (fun y => List.length p - y.1.1) ⟨((0 : Nat), 0), by simp, fun _ => rfl⟩ ⟨rfl, rfl, rfl, rfl, rfl, trivial⟩ I_ (fun _ _ h => h) ?_
  rintro ⟨⟨i, w⟩, hi, hw⟩
  dsimp only at hi hw ⊢
  refine h_ (c_ (x_ (ax_ rfl rfl) rfl fun r1 hr1 => ?_))
  refine d_ (b_ rfl (h_ ?_))
  cases r1
  · skip
    replace hr1 := of_decide_eq_false hr1
    refine v_ rfl (at_ rfl (b_ rfl (h_ (c_ (a_ (e_ rfl) rfl (a_ (ak_ H_ rfl) rfl (x_ (bS_ rfl rfl) rfl fun r2 hr2 => ?_)))))))
    refine a_ (e_ rfl) rfl ?_
    cases r2
    · skip
      replace hr2 := of_decide_eq_false hr2
      refine r_ rfl rfl rfl rfl (r_ rfl rfl rfl rfl (a_ (A_ rfl rfl) rfl (a_ (g_ rfl) rfl (d_ (b_ rfl (E_ ?_))))))
      exact as_ Tryz.results31 ⟨false, fun h => by cases h⟩ rfl I_ (fun _ _ _ => trivial)
    · skip
      replace hr2 := of_decide_eq_true hr2
      refine p_ rfl rfl (a_ (e_ rfl) rfl (p_ rfl rfl (x_ (bS_ rfl rfl) rfl fun r3 hr3 => ?_)))
      refine a_ (G_ rfl rfl) rfl (a_ (g_ rfl) rfl (d_ (b_ rfl (E_ ?_))))
      exact as_ Tryz.results31 ⟨r3, fun h => ⟨by omega, by rw [h] at hr3; have hle := of_decide_eq_true hr3; rw [hw (by omega), List.take_of_length_le (by omega)] at hle; exact mT_ hle (by decide)⟩⟩ rfl I_ (fun _ _ _ => trivial)
  · skip
    replace hr1 := of_decide_eq_true hr1
    have hlx1 : i < List.length p := by omega
    obtain ⟨x1, hx1⟩ : ∃ e0, p[i]? = some e0 := ⟨_, List.getElem?_eq_getElem hlx1⟩
    have hmx1 : x1 ∈ p := List.mem_of_getElem? hx1
    obtain ⟨q1, q2, q3, q4, q5, q6⟩ := hbig x1 hmx1
    refine u_ rfl (B_ (b_ rfl (h_ (Q_ (h_ (c_ (a_ (aa_ H_ L_ rfl rfl (fun v _ h => az_ (n := 10) Pc.cells_len (by decide) (by exact h.1) hx1) (by omega) (by first | omega | (simp; done))) rfl (a_ (aT_ (ad := pad) (us := Pc.cells x1) aH_ L_ rfl (fun v _ h => by exact h.1) (Pc.cells_len _) (ac_ Pc.cells_len hx1)) rfl (ao_ bd_ rfl fun b1 => ?_)))))))))
    refine T_ 0 L_ rfl rfl rfl rfl rfl rfl (d_ (b_ rfl (c_ (a_ (e_ rfl) rfl (a_ (l_ k_ rfl rfl rfl j_) rfl (a_ (t_ 0 q_ rfl rfl rfl) rfl (a_ (bM_ U_ rfl) rfl (a_ (l_ k_ rfl rfl rfl j_) rfl (a_ (t_ 0 q_ rfl rfl rfl) rfl ?_)))))))))
    refine a_ (bM_ U_ rfl) rfl (a_ (O_ rfl rfl rfl (af_ (by omega) (by omega))) rfl (a_ (l_ k_ rfl rfl rfl j_) rfl (a_ (t_ 0 q_ rfl rfl rfl) rfl (a_ (bM_ U_ rfl) rfl (a_ (O_ rfl rfl rfl (af_ (by omega) (by omega))) rfl (a_ (l_ k_ rfl rfl rfl j_) rfl (a_ (t_ 0 q_ rfl rfl rfl) rfl (a_ (bM_ U_ rfl) rfl (a_ (O_ rfl rfl rfl (af_ (by omega) (by omega))) rfl ?_)))))))))
    refine a_ (l_ k_ rfl rfl rfl j_) rfl (a_ (t_ 0 q_ rfl rfl rfl) rfl (a_ (bM_ U_ rfl) rfl (a_ (O_ rfl rfl rfl (af_ (by omega) (by omega))) rfl (a_ (l_ k_ rfl rfl rfl j_) rfl (a_ (t_ 0 q_ rfl rfl rfl) rfl (a_ (bM_ U_ rfl) rfl (a_ (O_ rfl rfl rfl (af_ (by omega) (by omega))) rfl (a_ (iv_ rfl rfl) rfl (a_ (g_ rfl) rfl ?_)))))))))
    refine d_ (b_ rfl (c_ (a_ (O_ rfl rfl rfl (af_ (by omega) (by omega))) rfl (a_ (e_ rfl) rfl (d_ (w_ rfl ?_))))))
    exact Y_ ⟨(i + 1, (IntKind.wrap .i64 (w + (((((((Pc.a x1).length : Int) + ((Pc.b x1).length : Int)) + ((Pc.c x1).length : Int)) + ((Pc.r x1).length : Int)) + ((Pc.s x1).length : Int)) + ((Pc.t x1).length : Int))))), hlx1, fun h40 => by rw [nv_ hx1, hw h40]; have hq := lw_ (l := List.take i p) (fun x hx => hbig x (List.mem_of_mem_take hx)); rw [List.length_take] at hq; unfold iK_; exact af_ (by omega) (by omega)⟩ (by dsimp only; omega) ⟨rfl, rfl, rfl, rfl, rfl, trivial⟩ I_ (fun _ _ h => h)
section
variable {P : Program} {N : Nat} {fr : Fr} {H : Hp} {Γ : List Fct} {ty : TypeId}
end
def P13 : List Pc := [⟨1, [65], [], [66], [], [], [], 0, 0, 0⟩, ⟨1, [66], [], [67], [], [], [], 0, 0, 0⟩, ⟨1, [65], [], [67], [], [], [], 0, 0, 0⟩]
def P12 : List Pc := [⟨1, [65], [], [66], [], [], [], 0, 0, 0⟩, ⟨1, [66], [], [67], [], [], [], 0, 0, 0⟩]
def P11 : List Pc := [⟨1, [65], [], [66], [], [], [], 0, 0, 0⟩]
theorem mD_ {p : List Pc} {B : List Str} (hs : mE_ B) (h : ∀ x, x ∈ B ↔ x ∈ cs_ p ∨ x = [42] ∨ x = [33]) : atS p = B :=
  ey_ eg_ List.lt_trans (jt_ p) hs fun x => by rw [iq_, eE_, h]
theorem qm_ : atS P13 = A3 := mD_ (by decide) fun x => by
  have e : cs_ P13 = [[65], [66], [66], [67], [65], [67]] := by decide +kernel
  rw [e]; simp only [A3, List.mem_cons, List.not_mem_nil, or_false]
  constructor
  · rintro (h | h | h | h | h) <;> simp [h]
  · rintro ((h | h | h | h | h | h) | h | h) <;> simp [h]
theorem qn_ : atS P12 = A3 := mD_ (by decide) fun x => by
  have e : cs_ P12 = [[65], [66], [66], [67]] := by decide +kernel
  rw [e]; simp only [A3, List.mem_cons, List.not_mem_nil, or_false]
  constructor
  · rintro (h | h | h | h | h) <;> simp [h]
  · rintro ((h | h | h | h) | h | h) <;> simp [h]
def A2 : List Str := [[33], [42], [65], [66]]
theorem qo_ : atS P11 = A2 := mD_ (by decide) fun x => by
  have e : cs_ P11 = [[65], [66]] := by decide +kernel
  rw [e]; simp only [A2, List.mem_cons, List.not_mem_nil, or_false]
  constructor
  · rintro (h | h | h | h) <;> simp [h]
  · rintro ((h | h) | h | h) <;> simp [h]
theorem kM_ : bK_ P13 = 0 := by decide +kernel
theorem nf_ : bK_ P12 = 0 := by decide +kernel
theorem ng_ : bK_ P11 = 0 := by decide +kernel
def F13 : List Fc := gL_ P13 A3 4
def F11 : List Fc := gL_ P11 A2 4
theorem F13_is : dp_ P13 A3 100 (some F13) := hE_ (eX_ kM_) 4 100 (by decide +kernel) (by decide +kernel)
theorem F12_is : dp_ P12 A3 100 (some F13) := by
  have h : dp_ P12 A3 100 (some (gL_ P12 A3 4)) := hE_ (eX_ nf_) 4 100 (by decide +kernel) (by decide +kernel)
  have e : gL_ P12 A3 4 = F13 := by decide +kernel
  rw [e] at h; exact h
theorem F11_is : dp_ P11 A2 100 (some F11) := hE_ (eX_ ng_) 4 100 (by decide +kernel) (by decide +kernel)
theorem pB_ : (bQ_ F13 F0).length = 9 := by decide +kernel
theorem pf_ : (bQ_ F13 F13).length = 0 := by decide +kernel
theorem oQ_ : (bQ_ F13 F11).length = 4 := by decide +kernel
theorem nh_ : F13.length = 12 := by decide +kernel
theorem hj_ {p : List Pc} {bu : Int} {w : Wk} {e : Int} {L : List Fc} (h : cV_ p bu w e) (hc : bK_ p = 0) (hb : 0 ≤ bu) (hb2 : bu ≤ 1073741824) (hr : dp_ p (atS p) (min bu 65536).toNat (some L)) : e = 0 ∧ w.ps = p ∧ w.cl.facts = L ∧ w.cl.atoms = atS p ∧ w.ok := by
  obtain ⟨c, h1, h2, _⟩ := h
  obtain ⟨q1, q2, q3⟩ := (ir_ h1 hc hb hb2 hr).1 _ rfl
  obtain ⟨r1, r2, r3⟩ := h2 q1
  exact ⟨q1, r1, by rw [r2, q2], by rw [r2, q3], r3⟩
theorem s13_1 {w : Wk} {e : Int} (h : cV_ [] 3 w e) : e = 0 ∧ w.ps = [] ∧ w.cl.facts = F0 ∧ w.ok := by
  obtain ⟨a, b, c, _, d⟩ := hj_ h kp_ (by decide) (by decide) (L := F0) (by rw [kF_]; exact F0_is 3 (by decide))
  exact ⟨a, b, c, d⟩
theorem s13_2 {w : Wk} {e : Int} (h : cV_ [] 2 w e) : e = 3 := by
  obtain ⟨c, h1, _⟩ := h
  exact (sane2 h1).1
theorem s13_3 {w x : Wk} {g : List Fc} {e : Int} (hw : w.ps = []) (hf : w.cl.facts = F0) (h : fX_ w P13 100 x g e) : e = 0 ∧ x.ps = P13 ∧ x.cl.facts = F13 ∧ x.ok ∧ g.length = 9 := by
  unfold fX_ at h
  rw [if_neg (by rw [kM_]; decide), if_neg (by decide), if_neg (by rw [hw]; decide), hw, List.nil_append] at h
  obtain ⟨a, b, c, _, d⟩ := hj_ h.1 kM_ (by decide) (by decide) (L := F13) (by rw [qm_]; exact F13_is)
  refine ⟨a, b, c, d, ?_⟩
  rw [h.2, if_pos a, c, hf]; exact pB_
theorem s13_4 {x y : Wk} {g : List Fc} {e : Int} (hx : x.ps = P13) (hf : x.cl.facts = F13) (h : gd_ x [2] 100 y g e) : e = 0 ∧ y.ps = P12 ∧ y.cl.facts = F13 ∧ y.ok ∧ g.length = 0 := by
  unfold gd_ at h
  rw [if_neg (by rw [hx]; decide), hx, show dI_ [2] 0 P13 = P12 by decide +kernel] at h
  obtain ⟨a, b, c, _, d⟩ := hj_ h.1 nf_ (by decide) (by decide) (L := F13) (by rw [qn_]; exact F12_is)
  refine ⟨a, b, c, d, ?_⟩
  rw [h.2, if_pos a, c, hf]; exact pf_
theorem s13_5 {x y : Wk} {g : List Fc} {e : Int} (hx : x.ps = P12) (hf : x.cl.facts = F13) (h : gd_ x [1] 100 y g e) : e = 0 ∧ g.length = 4 := by
  unfold gd_ at h
  rw [if_neg (by rw [hx]; decide), hx, show dI_ [1] 0 P12 = P11 by decide +kernel] at h
  obtain ⟨a, b, c, _, d⟩ := hj_ h.1 ng_ (by decide) (by decide) (L := F11) (by rw [qo_]; exact F11_is)
  refine ⟨a, ?_⟩
  rw [h.2, if_pos a, c, hf]; exact oQ_
theorem s13_6 {e : Int} (h : gM_ Wk.no e) : e = 1 := by
  unfold gM_ at h
  rw [if_neg (by rw [show Wk.no.ps = [] from rfl, kp_]; decide)] at h
  obtain ⟨c, e1, h1, h2⟩ := h
  rw [h2, if_neg]
  rintro ⟨q1, q2, _⟩
  subst q1
  have h1' : dG_ [] 1073741824 c 0 := h1
  have := h1'.good.2.2.2.2.1
  rw [q2, kF_] at this
  cases this
theorem pt_ : ∀ x ∈ P13, x.sm := Pc.sm_all (by decide +kernel)
theorem P12_sm : ∀ x ∈ P12, x.sm := Pc.sm_all (by decide +kernel)
end Go.Proofs.YtpdbbglpbngeiaaGreatDoor
namespace Go.Proofs.YtpdbbglpbngeiaaGreatDoor
open Go Go.Sx Go.Proofs
attribute [local irreducible] Code.wp wpList wpAnyH
open Go.Vs
set_option maxHeartbeats 1000000 in
theorem on_ : Tri Tryz.prog 30 #[] [] [gK_] (fun _ : Unit => .bool true) (fun _ => []) (fun _ => []) := by
 refine R_ Tryz.func30 rfl rfl Tryz.ntmps30 rfl fun v0 => ?_
 refine h_ (c_ (a_ (g_ rfl) rfl (d_ (b_ rfl (h_ (c_ (V_ (hk_ ([] : List Pc) none 0 3 (fun y hy => by simp at hy) (Nat.le_refl _) (by simp)) rfl I_ (fun v _ h => by exact ⟨.inl rfl, h.1, trivial⟩) rfl fun ⟨⟨w1, e1⟩, hw1⟩ => ?_)))))))
 dsimp only
 dsimp only at hw1
 obtain ⟨rfl, hp1, hf1, hk1⟩ := s13_1 hw1
 refine a_ (e_ rfl) rfl (a_ (am_ rfl rfl) rfl (a_ (am_ rfl rfl) rfl (ao_ cB_ rfl fun b1 => ?_)))
 refine T_ 0 an_ rfl rfl rfl rfl rfl rfl (a_ (g_ rfl) rfl (d_ (b_ rfl (h_ (c_ (V_ (hk_ ([] : List Pc) none 0 2 (fun y hy => by simp at hy) (Nat.le_refl _) (by simp)) rfl I_ (fun v _ h => by exact ⟨.inl rfl, h.2.2.2.1, trivial⟩) rfl fun ⟨⟨w2, e2⟩, hw2⟩ => ?_))))))
 dsimp only
 dsimp only at hw2
 obtain rfl := s13_2 hw2
 refine a_ (e_ rfl) rfl (a_ (am_ rfl rfl) rfl (a_ (am_ rfl rfl) rfl (ao_ cB_ rfl fun b2 => ?_)))
 refine T_ 0 an_ rfl rfl rfl rfl rfl rfl (a_ (g_ rfl) rfl (d_ (b_ rfl (h_ (c_ (a_ (av_ ki_ rfl rfl) rfl (a_ (av_ ki_ rfl rfl) rfl (a_ (av_ ki_ rfl rfl) rfl (aJ_ H_ L_ bd_ rfl rfl rfl rfl rfl rfl fun b3 => ?_)))))))))
 refine bw_ (List.flatMap Pc.cells [(Pc.mk 1 [65] [] [66] [] [] [] 0 0 0), (Pc.mk 1 [66] [] [67] [] [] [] 0 0 0), (Pc.mk 1 [65] [] [67] [] [] [] 0 0 0)]) i_ rfl ?_
 refine a_ (g_ rfl) rfl (d_ (b_ rfl (h_ (c_ (a_ (X_ 1 bf_ an_ rfl rfl rfl) rfl (a_ (e_ rfl) rfl (V_ (add_c w1 P13 (some ⟨b3, 0, none⟩) 3 100 (fun y hy => by rw [hp1] at hy; simp at hy) hk1.al hk1.az (by rw [hp1]; simp) (by rw [hf1, pv_]; omega) pt_ (by decide) (fun z => by cases z) (by decide)) rfl I_ (fun v _ h => by exact ⟨h.2.2.2.2.1, h.2.2.2.2.2.1, h.2.2.2.2.2.2.1, h.1, h.2.2.2.2.2.2.2.1, trivial⟩) rfl fun ⟨⟨w3, g3, gad3, gcp3, e3⟩, ha3, hb3⟩ => ?_)))))))
 dsimp only
 dsimp only at ha3 hb3
 obtain ⟨rfl, hp3, hf3, hk3, hg3⟩ := s13_3 hp1 hf1 ha3
 refine a_ (e_ rfl) rfl (a_ (am_ rfl rfl) rfl (a_ (am_ rfl rfl) rfl (a_ (am_ rfl rfl) rfl (ao_ cB_ rfl fun b4 => ?_))))
 refine T_ 0 an_ rfl rfl rfl rfl rfl rfl (a_ (g_ rfl) rfl (a_ (g_ rfl) rfl (d_ (b_ rfl (h_ (c_ (a_ (X_ 0 bf_ an_ rfl rfl rfl) rfl (aJ_ dz_ K_ Tryz.zeroValue3 rfl rfl rfl rfl rfl rfl fun b5 => ?_))))))))
 refine bw_ (List.flatMap kv_ [2]) i_ rfl ?_
 refine V_ (lo_ w3 [2] (some ⟨b5, 0, none⟩) 1 100 (fun y hy => by rw [hp3] at hy; exact pt_ y hy) hk3.al hk3.az (by rw [hp3]; decide) (by rw [hf3, nh_]; omega) (by simp)) rfl I_ (fun v _ h => by exact ⟨h.2.1, h.2.2.1, h.2.2.2.1, h.1, h.2.2.2.2.2.2.2.2.2.2.2.2.1, trivial⟩) rfl fun ⟨⟨w4, g4, gad4, gcp4, e4⟩, ha4, hb4⟩ => ?_
 dsimp only
 dsimp only at ha4 hb4
 obtain ⟨rfl, hp4, hf4, hk4, hg4⟩ := s13_4 hp3 hf3 ha4
 refine a_ (e_ rfl) rfl (a_ (am_ rfl rfl) rfl (a_ (am_ rfl rfl) rfl (a_ (am_ rfl rfl) rfl (ao_ cB_ rfl fun b6 => ?_))))
 refine T_ 0 an_ rfl rfl rfl rfl rfl rfl (a_ (g_ rfl) rfl (a_ (g_ rfl) rfl (d_ (b_ rfl (h_ (c_ (a_ (X_ 0 bf_ an_ rfl rfl rfl) rfl (aJ_ dz_ K_ Tryz.zeroValue3 rfl rfl rfl rfl rfl rfl fun b7 => ?_))))))))
 refine bw_ (List.flatMap kv_ [1]) i_ rfl ?_
 refine V_ (lo_ w4 [1] (some ⟨b7, 0, none⟩) 1 100 (fun y hy => by rw [hp4] at hy; exact P12_sm y hy) hk4.al hk4.az (by rw [hp4]; decide) (by rw [hf4, nh_]; omega) (by simp)) rfl I_ (fun v _ h => by exact ⟨h.2.1, h.2.2.1, h.2.2.2.1, h.1, h.2.2.2.2.2.2.2.2.2.2.2.2.2.2.2.2.2.1, trivial⟩) rfl fun ⟨⟨w5, g5, gad5, gcp5, e5⟩, ha5, hb5⟩ => ?_
 dsimp only
 dsimp only at ha5 hb5
 obtain ⟨rfl, hg5⟩ := s13_5 hp4 hf4 ha5
 refine a_ (e_ rfl) rfl (a_ (am_ rfl rfl) rfl (a_ (am_ rfl rfl) rfl (a_ (am_ rfl rfl) rfl (ao_ cB_ rfl fun b8 => ?_))))
 refine T_ 0 an_ rfl rfl rfl rfl rfl rfl (a_ (g_ rfl) rfl (a_ (g_ rfl) rfl (d_ (b_ rfl (h_ (c_ (a_ (e_ rfl) rfl (a_ (bA_ (aI_ rfl rfl) (show _ = Value.bool true from congrArg Value.bool (by decide))) rfl (a_ (e_ rfl) rfl ?_)))))))))
 refine p_ rfl rfl (a_ (l_ aA_ rfl rfl rfl Z_) rfl (p_ rfl rfl (a_ (l_ aB_ rfl rfl rfl bs_) rfl (p_ rfl rfl (a_ (t_ 4 bB_ rfl rfl rfl) rfl (p_ rfl rfl (a_ (ak_ F_ rfl) rfl (p_ rfl rfl (x_ (aI_ rfl rfl) rfl fun r1 hr1 => ?_)))))))))
 refine a_ (G_ rfl rfl) rfl (a_ (e_ rfl) rfl ?_)
 cases r1
 ·
  replace hr1 := ne_of_beq_false hr1
  exact absurd (by rw [hf1, pv_]; rfl) hr1
 ·
  replace hr1 := eq_of_beq hr1
  refine p_ rfl rfl (a_ (e_ rfl) rfl (p_ rfl rfl (a_ (bA_ (aI_ rfl rfl) (show _ = Value.bool true from congrArg Value.bool (by decide))) rfl (a_ (G_ rfl rfl) rfl (a_ (e_ rfl) rfl (p_ rfl rfl (a_ (av_ eo_ rfl rfl) rfl (p_ rfl rfl (V_ (pm_ ((Wk.mk [] none 0 (Cl.mk [] none 0 [] none 0))) (fun y hy => by simp at hy) (by simp) (by simp) (by simp)) rfl I_ (fun v _ h => by exact ⟨.inl rfl, .inl rfl, .inl rfl, h.2.2.2.2.2.2.2.2.2.2.2.2.2.2.2.2.2.2.2.2.2.1, trivial⟩) rfl fun ⟨e9, he9⟩ => ?_)))))))))
  dsimp only
  obtain rfl := s13_6 he9
  refine p_ rfl rfl (a_ (bA_ (aI_ rfl rfl) (show _ = Value.bool true from congrArg Value.bool (by decide))) rfl (a_ (G_ rfl rfl) rfl (a_ (e_ rfl) rfl (p_ rfl rfl (a_ (e_ rfl) rfl (p_ rfl rfl (a_ (bA_ (aI_ rfl rfl) (show _ = Value.bool true from congrArg Value.bool (by decide))) rfl (a_ (G_ rfl rfl) rfl (a_ (e_ rfl) rfl ?_)))))))))
  refine p_ rfl rfl (a_ (e_ rfl) rfl (p_ rfl rfl (a_ (ak_ F_ rfl) rfl (p_ rfl rfl (x_ (aI_ rfl rfl) rfl fun r2 hr2 => ?_)))))
  refine a_ (G_ rfl rfl) rfl (a_ (e_ rfl) rfl ?_)
  cases r2
  ·
   replace hr2 := ne_of_beq_false hr2
   exact absurd (by rw [hg3]; rfl) hr2
  ·
   replace hr2 := eq_of_beq hr2
   refine p_ rfl rfl (a_ (e_ rfl) rfl (p_ rfl rfl (a_ (bA_ (aI_ rfl rfl) (show _ = Value.bool true from congrArg Value.bool (by decide))) rfl (a_ (G_ rfl rfl) rfl (a_ (e_ rfl) rfl (p_ rfl rfl (a_ (e_ rfl) rfl (p_ rfl rfl (a_ (ak_ F_ rfl) rfl ?_)))))))))
   refine p_ rfl rfl (x_ (aI_ rfl rfl) rfl fun r3 hr3 => ?_)
   refine a_ (G_ rfl rfl) rfl (a_ (e_ rfl) rfl ?_)
   cases r3
   ·
    replace hr3 := ne_of_beq_false hr3
    exact absurd (by rw [hg4]; rfl) hr3
   ·
    replace hr3 := eq_of_beq hr3
    refine p_ rfl rfl (a_ (e_ rfl) rfl (p_ rfl rfl (a_ (bA_ (aI_ rfl rfl) (show _ = Value.bool true from congrArg Value.bool (by decide))) rfl (a_ (G_ rfl rfl) rfl (a_ (e_ rfl) rfl (p_ rfl rfl (a_ (e_ rfl) rfl (p_ rfl rfl (a_ (ak_ F_ rfl) rfl ?_)))))))))
    refine p_ rfl rfl (x_ (aI_ rfl rfl) rfl fun r4 hr4 => ?_)
    refine a_ (G_ rfl rfl) rfl (a_ (g_ rfl) rfl (d_ (b_ rfl (E_ ?_))))
    exact as_ Tryz.results30 () (y_ rfl (by rw [← hr4, hg5]; rfl)) I_ (fun _ _ _ => trivial)
end Go.Proofs.YtpdbbglpbngeiaaGreatDoor
namespace Go.Proofs.YtpdbbglpbngeiaaGreatDoor
open Go Go.Sx Go.Proofs
attribute [local irreducible] Code.wp wpList wpAnyH
open Go.Vs
structure Chg where
  ps : List Pc
  ad : Option Addr
  cap : Nat
  msk : Int
def Chg.cells (c : Chg) : List Value := [.slice c.ad c.ps.length c.cap, .int .u32 c.msk]
theorem Chg.cells_len (c : Chg) : c.cells.length = 2 := rfl
def Chg.val (c : Chg) : Value := .agg c.cells.toArray
structure Chg.ok (c : Chg) : Prop where
  le : c.ps.length ≤ c.cap
  nz : c.ad = none → c.cap = 0
  mx : c.cap ≤ 1099511627744
  big : ∀ x ∈ c.ps, x.big
end Go.Proofs.YtpdbbglpbngeiaaGreatDoor
namespace Go.Proofs.YtpdbbglpbngeiaaGreatDoor
open Go Go.Sx Go.Proofs
attribute [local irreducible] Code.wp wpList wpAnyH
open Go.Vs
theorem jZ_ (xs : List PL) (xad : Option Addr) (xcap : Nat) (hok : ∀ x ∈ xs, x.ok) (hl : xs.length ≤ 100) (hsm : ∀ x ∈ dA_ xs, x.sm) (hp : (dA_ xs).length ≤ 100) : Tri Tryz.prog 33 #[.slice xad (List.length xs) xcap] [] [aC_ xad (List.flatMap PL.cells xs), plF xs] (fun b : Bool => .bool b) (fun _ => []) (fun _ => []) := by
  refine R_ Tryz.func33 rfl rfl Tryz.ntmps33 rfl fun v0 => ?_
  refine h_ (c_ (a_ (g_ rfl) rfl (d_ (b_ rfl (h_ (c_ (a_ (g_ rfl) rfl (d_ (b_ rfl ?_)))))))))
  refine h_ (h_ (c_ (a_ (e_ rfl) rfl (a_ (ak_ cJ_ rfl) rfl (a_ (e_ rfl) rfl (d_ (b_ rfl (Q_ ?_))))))))
  refine aG_ (ι := {y : Nat × Value × Hp // y.1 ≤ List.length xs ∧ aR_ 47 10 y.2.1 (List.length (dA_ (List.take y.1 xs))) (List.flatMap Pc.cells (dA_ (List.take y.1 xs))) y.2.2}) (fun y => [(8, .slice xad (List.length xs) xcap), (9, .int .i64 (List.length xs : Int)), (10, .int .i64 (y.1.1 : Int)), (3, y.1.2.1)]) (fun y => (y.1.2.2)) (fun y => [aC_ xad (List.flatMap PL.cells xs), plF xs]) (fun y => List.length xs - y.1.1) ⟨((0 : Nat), (.slice none 0 0), []), by simp, (aR_.nil _ _)⟩ ⟨rfl, rfl, rfl, rfl, trivial⟩ I_ (fun _ _ h => h) ?_
  rintro ⟨⟨j, sv_Rp, H_Rp⟩, hj, hr_Rp⟩
  dsimp only at hj hr_Rp ⊢
  have hpl := jT_ hok j
  refine h_ (c_ (x_ (ax_ rfl rfl) rfl fun r1 hr1 => ?_))
  refine d_ (b_ rfl (h_ ?_))
  cases r1
  · skip
    replace hr1 := of_decide_eq_false hr1
    rw [List.take_of_length_le (by omega)] at hr_Rp
    refine v_ rfl (at_ rfl (b_ rfl (h_ (c_ (a_ (e_ rfl) rfl (bt_ hr_Rp aE_ fun tad tcp htad hctad hmtad hztad => ?_))))))
    subst htad
    refine V_ (mh_ (dA_ xs) tad tcp 1000 hsm (by omega)) rfl I_ (fun v _ h => by exact ⟨h.1, trivial⟩) rfl fun ⟨⟨c1, e1⟩, hA1⟩ => ?_
    dsimp only
    dsimp only at hA1
    refine a_ (e_ rfl) rfl (a_ (am_ rfl rfl) rfl (a_ (am_ rfl rfl) rfl (ao_ dq_ rfl fun b1 => ?_)))
    refine T_ 0 Z_ rfl rfl rfl rfl rfl rfl (a_ (g_ rfl) rfl (d_ (b_ rfl (h_ (c_ (a_ (e_ rfl) rfl (x_ (bN_ rfl rfl) rfl fun r2 hr2 => ?_)))))))
    refine a_ (g_ rfl) rfl (d_ (b_ rfl (E_ ?_)))
    exact as_ Tryz.results33 r2 rfl I_ (fun _ _ _ => trivial)
  · skip
    replace hr1 := of_decide_eq_true hr1
    have hlx2 : j < List.length xs := by omega
    obtain ⟨x2, hx2⟩ : ∃ e0, xs[j]? = some e0 := ⟨_, List.getElem?_eq_getElem hlx2⟩
    have hmx2 : x2 ∈ xs := List.mem_of_getElem? hx2
    have hsh1 := (hok x2 hmx2).sh
    refine u_ rfl (B_ (b_ rfl (h_ (Q_ (h_ (c_ (a_ (aa_ cJ_ bC_ rfl rfl (fun v _ h => az_ (n := 1) PL.cells_len (by decide) (by exact h.1) hx2) (by omega) (by first | omega | (simp; done))) rfl (a_ (aL_ (ad := xad) ci_ rfl (fun v _ h => by exact h.1) (ac_ PL.cells_len hx2 0 _ rfl)) rfl (a_ (g_ rfl) rfl ?_)))))))))
    refine d_ (b_ rfl (c_ (a_ (e_ rfl) rfl (a_ (e_ rfl) rfl (aK_ (news := List.flatMap Pc.cells (PL.l x2)) gW_ hr_Rp rfl rfl (hok x2 hmx2).nz (hok x2 hmx2).le aE_ (by rw [bp_ Pc.cells 10 Pc.cells_len]) (fun v _ h => by exact (h.2.1 x2 hmx2)) (fun u hu => aN_ Pc.cells_one hu) (by simp only [maxLen]; (have := (hok x2 hmx2).sh; omega)) (by (have := (hok x2 hmx2).sh; omega)) rfl fun sv1 Hr1 hr1 => ?_)))))
    refine al_ List.perm_append_comm ?_
    have hq1 : aR_ 47 10 sv1 (List.length ((dA_ (List.take j xs)) ++ (PL.l x2))) (List.flatMap Pc.cells ((dA_ (List.take j xs)) ++ (PL.l x2))) Hr1 := by rw [List.length_append, List.flatMap_append]; exact hr1
    refine a_ (g_ rfl) rfl (d_ (b_ rfl (c_ (a_ (O_ rfl rfl rfl (af_ (by omega) (by omega))) rfl (a_ (e_ rfl) rfl (d_ (w_ rfl ?_)))))))
    exact Y_ ⟨(j + 1, sv1, Hr1), hlx2, (by rw [iI_ hx2]; exact hq1)⟩ (by dsimp only; omega) ⟨rfl, rfl, rfl, rfl, trivial⟩ aE_ (fun _ _ h => h)
theorem np_ (v w : Wk) (hv : v.ps.length ≤ 1000000000000) (hw : w.ps.length ≤ 1000000000000) (h1 : v.cl.atoms.length ≤ 1000000000000) (h2 : v.cl.facts.length ≤ 1000000000000) (h3 : w.cl.atoms.length ≤ 1000000000000) (h4 : w.cl.facts.length ≤ 1000000000000) : Tri Tryz.prog 36 #[Wk.val v, Wk.val w] [] [aC_ (Wk.pad v) (List.flatMap Pc.cells (Wk.ps v)), aC_ (Cl.aad (Wk.cl v)) (List.flatMap aM_ (Cl.atoms (Wk.cl v))), aC_ (Cl.fad (Wk.cl v)) (List.flatMap Fc.cells (Cl.facts (Wk.cl v))), aC_ (Wk.pad w) (List.flatMap Pc.cells (Wk.ps w)), aC_ (Cl.aad (Wk.cl w)) (List.flatMap aM_ (Cl.atoms (Wk.cl w))), aC_ (Cl.fad (Wk.cl w)) (List.flatMap Fc.cells (Cl.facts (Wk.cl w)))] (fun _ : Unit => .bool (decide (v.ps = w.ps) && (decide (Cl.atoms (Wk.cl v) = Cl.atoms (Wk.cl w)) && decide (Cl.facts (Wk.cl v) = Cl.facts (Wk.cl w))))) (fun _ => []) (fun _ => []) := by
 refine R_ Tryz.func36 rfl rfl Tryz.ntmps36 rfl fun v0 => ?_
 refine h_ (c_ (bn_ rfl rfl fun b1 => ?_))
 refine bn_ rfl rfl fun b2 => ?_
 refine a_ (g_ rfl) rfl (d_ (b_ rfl (h_ (h_ (c_ (a_ (l_ aA_ rfl rfl rfl bC_) rfl (a_ (t_ 1 ci_ rfl rfl rfl) rfl (a_ (ak_ H_ rfl) rfl (a_ (l_ aA_ rfl rfl rfl bC_) rfl ?_)))))))))
 refine a_ (t_ 0 ci_ rfl rfl rfl) rfl (a_ (ak_ H_ rfl) rfl (x_ (bN_ rfl rfl) rfl fun r1 hr1 => ?_))
 refine a_ (e_ rfl) rfl ?_
 cases r1
 ·
  replace hr1 := bb_ hr1
  have hlen : (Wk.ps v).length = (Wk.ps w).length := by have := hr1; omega
  refine p_ rfl rfl (a_ (l_ aA_ rfl rfl rfl Z_) rfl (p_ rfl rfl (a_ (X_ 1 aU_ Z_ rfl rfl rfl) rfl (p_ rfl rfl (a_ (l_ aA_ rfl rfl rfl Z_) rfl (p_ rfl rfl (a_ (X_ 0 aU_ Z_ rfl rfl rfl) rfl (p_ rfl rfl (au_ (mL_ (Wk.cl v) (Wk.cl w) (by omega) (by omega) (by omega) (by omega)) rfl I_ (fun v _ h => by exact ⟨h.2.1, h.2.2.1, h.2.2.2.2.1, h.2.2.2.2.2.1, trivial⟩) rfl fun r2 hr2 => ?_)))))))))
  refine p_ rfl rfl (a_ (bZ_ rfl) rfl (a_ (A_ rfl rfl) rfl (d_ (b_ rfl ?_))))
  cases r2
  ·
   simp at hr2
   refine u_ rfl (h_ (c_ (a_ (g_ rfl) rfl (d_ (b_ rfl (E_ ?_))))))
   exact as_ Tryz.results36 () (y_ rfl (by symm; rw [Bool.and_eq_false_iff]; first | (left; apply decide_eq_false; intro e; rw [e] at *; exact absurd rfl (by assumption)) | (right; simp_all; done) | (left; apply decide_eq_false; intro e; rw [e] at hr1; exact hr1 rfl))) I_ (fun _ _ _ => trivial)
  ·
   simp at hr2
   have hsame := hr2
   refine v_ rfl (B_ (b_ rfl (h_ (h_ (c_ (a_ (g_ rfl) rfl (d_ (b_ rfl (Q_ ?_)))))))))
   refine aG_ (ι := {y : Nat // y ≤ (Wk.ps v).length ∧ (Wk.ps v).take y = (Wk.ps w).take y}) (fun y => [(2, zp_ b1 0), (3, zp_ b2 0), (5, .int .i64 (y.1 : Int))]) (fun y => ((b2, .cells #[.slice (Wk.pad w) (List.length (Wk.ps w)) (Wk.pcap w), .slice (Cl.aad (Wk.cl w)) (List.length (Cl.atoms (Wk.cl w))) (Cl.acap (Wk.cl w)), .slice (Cl.fad (Wk.cl w)) (List.length (Cl.facts (Wk.cl w))) (Cl.fcap (Wk.cl w))] 50 (0, 0)) :: ((b1, .cells #[.slice (Wk.pad v) (List.length (Wk.ps v)) (Wk.pcap v), .slice (Cl.aad (Wk.cl v)) (List.length (Cl.atoms (Wk.cl v))) (Cl.acap (Wk.cl v)), .slice (Cl.fad (Wk.cl v)) (List.length (Cl.facts (Wk.cl v))) (Cl.fcap (Wk.cl v))] 50 (0, 0)) :: []))) (fun y => [aC_ (Wk.pad v) (List.flatMap Pc.cells (Wk.ps v)), aC_ (Cl.aad (Wk.cl v)) (List.flatMap aM_ (Cl.atoms (Wk.cl v))), aC_ (Cl.fad (Wk.cl v)) (List.flatMap Fc.cells (Cl.facts (Wk.cl v))), aC_ (Wk.pad w) (List.flatMap Pc.cells (Wk.ps w)), aC_ (Cl.aad (Wk.cl w)) (List.flatMap aM_ (Cl.atoms (Wk.cl w))), aC_ (Cl.fad (Wk.cl w)) (List.flatMap Fc.cells (Cl.facts (Wk.cl w)))]) (fun y => (Wk.ps v).length - y.1) ⟨(0 : Nat), by simp, by simp⟩ ⟨rfl, rfl, rfl, trivial⟩ (m_ i_ i_) (fun _ _ h => h) ?_
   rintro ⟨i, hi, he⟩
   dsimp only at hi he ⊢
   refine h_ (h_ (c_ (a_ (e_ rfl) rfl (a_ (l_ aA_ rfl rfl rfl bC_) rfl (a_ (t_ 1 ci_ rfl rfl rfl) rfl (a_ (ak_ H_ rfl) rfl (x_ (ax_ rfl rfl) rfl fun r3 hr3 => ?_)))))))
   refine d_ (b_ rfl ?_)
   cases r3
   ·
    replace hr3 := of_decide_eq_false hr3
    have hpe : (Wk.ps v) = (Wk.ps w) := by rwa [List.take_of_length_le (by omega), List.take_of_length_le (by omega)] at he
    refine v_ rfl (at_ rfl (b_ rfl (h_ (c_ (a_ (g_ rfl) rfl (d_ (b_ rfl (E_ ?_))))))))
    exact as_ Tryz.results36 () (y_ rfl (by rw [decide_eq_true hpe, decide_eq_true hsame.1, decide_eq_true hsame.2]; rfl)) I_ (fun _ _ _ => trivial)
   ·
    replace hr3 := of_decide_eq_true hr3
    have hlx1 : i < List.length (Wk.ps v) := by omega
    obtain ⟨x1, hx1⟩ : ∃ e0, (Wk.ps v)[i]? = some e0 := ⟨_, List.getElem?_eq_getElem hlx1⟩
    have hmx1 : x1 ∈ (Wk.ps v) := List.mem_of_getElem? hx1
    have hlx2 : i < List.length (Wk.ps w) := by omega
    obtain ⟨x2, hx2⟩ : ∃ e0, (Wk.ps w)[i]? = some e0 := ⟨_, List.getElem?_eq_getElem hlx2⟩
    have hmx2 : x2 ∈ (Wk.ps w) := List.mem_of_getElem? hx2
    refine u_ rfl (B_ (b_ rfl (h_ (Q_ (h_ ?_)))))
    refine aP_ (by kernel_rfl) ?_
    refine ae_ 0 [0, 1, 2, 3, 4, 5, 6, 7, 8, 9, 10] (by kernel_rfl) (fun _ a b => ⟨a, b⟩) (o_ rfl (l_ aA_ rfl rfl rfl bC_) rfl (o_ rfl (t_ 1 ci_ rfl rfl rfl) rfl (o_ rfl (e_ rfl) rfl (o_ rfl (aa_ H_ L_ rfl rfl (fun v _ h => az_ (n := 10) Pc.cells_len (by decide) (by exact h.1) hx1) (by omega) (by first | omega | (simp; done))) rfl (o_ rfl (aT_ (ad := (Wk.pad v)) (us := Pc.cells x1) aH_ L_ rfl (fun v _ h => by exact h.1) (Pc.cells_len _) (ac_ Pc.cells_len hx1)) rfl (o_ rfl (l_ aA_ rfl rfl rfl bC_) rfl (o_ rfl (t_ 0 ci_ rfl rfl rfl) rfl (o_ rfl (e_ rfl) rfl (o_ rfl (aa_ H_ L_ rfl rfl (fun v _ h => az_ (n := 10) Pc.cells_len (by decide) (by exact h.2.2.2.1) hx2) (by omega) (by first | omega | (simp; done))) rfl ?_)))))))))
    refine o_ rfl (aT_ (ad := (Wk.pad w)) (us := Pc.cells x2) aH_ L_ rfl (fun v _ h => by exact h.2.2.2.1) (Pc.cells_len _) (ac_ Pc.cells_len hx2)) rfl ?_
    refine ck_ rfl (ni_ (p := x1) (q := x2) rfl rfl) rfl fun r4 hr4 => ?_
    refine ad_ (ab_ (by kernel_rfl) (b_ rfl ?_))
    cases r4
    ·
     replace hr4 := of_decide_eq_false hr4
     refine v_ rfl (B_ (b_ rfl (c_ (a_ (e_ rfl) rfl (a_ (O_ rfl rfl rfl (af_ (by omega) (by omega))) rfl (a_ (g_ rfl) rfl (d_ (w_ rfl ?_))))))))
     exact Y_ ⟨i + 1, hlx1, by rw [List.take_add_one, hx1, List.take_add_one, hx2, he]; simp_all⟩ (by dsimp only; omega) ⟨rfl, rfl, rfl, trivial⟩ (m_ i_ i_) (fun _ _ h => h)
    ·
     replace hr4 := of_decide_eq_true hr4
     refine u_ rfl (h_ (c_ (a_ (g_ rfl) rfl (d_ (b_ rfl (E_ ?_))))))
     exact as_ Tryz.results36 () (y_ rfl (by symm; rw [Bool.and_eq_false_iff]; left; apply decide_eq_false; intro e; rw [e] at hx1; rw [hx1] at hx2; simp_all)) I_ (fun _ _ _ => trivial)
 ·
  replace hr1 := ba_ hr1
  refine r_ rfl rfl rfl rfl (r_ rfl rfl rfl rfl (r_ rfl rfl rfl rfl (r_ rfl rfl rfl rfl (r_ rfl rfl rfl rfl (r_ rfl rfl rfl rfl (a_ (G_ rfl rfl) rfl (d_ (b_ rfl (u_ rfl ?_)))))))))
  refine h_ (c_ (a_ (g_ rfl) rfl (d_ (b_ rfl (E_ ?_)))))
  exact as_ Tryz.results36 () (y_ rfl (by symm; rw [Bool.and_eq_false_iff]; first | (left; apply decide_eq_false; intro e; rw [e] at *; exact absurd rfl (by assumption)) | (right; simp_all; done) | (left; apply decide_eq_false; intro e; rw [e] at hr1; exact hr1 rfl))) I_ (fun _ _ _ => trivial)
end Go.Proofs.YtpdbbglpbngeiaaGreatDoor
namespace Go.Proofs.YtpdbbglpbngeiaaGreatDoor
open Go Go.Sx Go.Proofs
attribute [local irreducible] Code.wp wpList wpAnyH
open Go.Vs
theorem cV_.sm {p : List Pc} {bu : Int} {w : Wk} {e : Int} (h : cV_ p bu w e) (hs : ∀ x ∈ p, x.sm) : ∀ x ∈ w.ps, x.sm := by
  obtain ⟨c, _, h1, h2⟩ := h
  by_cases he : e = 0
  · rw [(h1 he).1]; exact hs
  · rw [h2 he]; intro x hx; simp [Wk.no] at hx
theorem fX_.run {w : Wk} {p : List Pc} {x : Wk} {new : List Fc} {e : Int} (h : fX_ w p 1073741824 x new e) (hc : bK_ p = 0) (hl : w.ps.length + p.length ≤ 16384) : cV_ (w.ps ++ p) 1073741824 x e ∧ new = if e = 0 then bQ_ x.cl.facts w.cl.facts else [] := by
  unfold fX_ at h
  rw [if_neg (by simp [hc]), if_neg (by simp), if_neg (by omega)] at h
  exact h
end Go.Proofs.YtpdbbglpbngeiaaGreatDoor
namespace Go.Proofs.YtpdbbglpbngeiaaGreatDoor
open Go Go.Sx Go.Proofs
attribute [local irreducible] Code.wp wpList wpAnyH
open Go.Vs
theorem ox_ (p : List Pc) (pad : Option Addr) (pcap : Nat) (bu : Int) (hsm : ∀ x ∈ p, x.sm) (hc : p.length ≤ pcap) (hz : pad = none → pcap = 0) (hp : p.length ≤ 100) : Tri Tryz.prog 35 #[.slice pad (List.length p) pcap, .int .i64 bu] [] [aC_ pad (List.flatMap Pc.cells p)] (fun y : {y : Wk × Int // cV_ p bu y.1 y.2} => .tuple #[y.1.1.val, .int .i64 y.1.2]) (fun _ => []) (fun y => y.1.1.row) := by
  refine R_ Tryz.func35 rfl rfl Tryz.ntmps35 rfl fun v0 => ?_
  refine h_ (c_ (ao_ cB_ rfl fun b1 => ?_))
  refine a_ (g_ rfl) rfl (d_ (b_ rfl (h_ (c_ (a_ (e_ rfl) rfl (a_ (e_ rfl) rfl (V_ (mh_ p pad pcap bu hsm (by omega)) rfl I_ (fun v _ h => by exact ⟨h.1, trivial⟩) rfl fun ⟨⟨c1, e1⟩, hA1⟩ => ?_)))))))
  dsimp only
  dsimp only at hA1
  refine a_ (e_ rfl) rfl (a_ (am_ rfl rfl) rfl (a_ (am_ rfl rfl) rfl (ao_ dq_ rfl fun b2 => ?_)))
  refine T_ 0 Z_ rfl rfl rfl rfl rfl rfl (a_ (g_ rfl) rfl (d_ (b_ rfl (h_ (h_ (c_ (a_ (e_ rfl) rfl (x_ (bN_ rfl rfl) rfl fun r1 hr1 => ?_))))))))
  refine d_ (b_ rfl ?_)
  cases r1
  · skip
    replace hr1 := bb_ hr1
    refine v_ rfl (B_ (b_ rfl (h_ ?_)))
    refine aS_ ((b2, .cells (Cl.cells c1).toArray 28 (0, 0)) :: []) (by kernel_rfl) ?_
    refine ae_ 5 [1, 3] (by kernel_rfl) (fun _ a b => ⟨Vw.sat.sub (a.perm i_), b⟩) (o_ rfl (e_ rfl) rfl (o_ rfl (X_ 0 aU_ Z_ rfl rfl rfl) rfl (ad_ (W_ 0 rfl (by kernel_rfl) (cW_ H_ L_ rfl fun b3 => ?_)))))
    refine al_ i_ (d_ (w_ rfl (N_ (fun _ a b => ⟨Vw.sat.sub (a.perm (s_ i_)), b⟩) (W_ 2 rfl (by kernel_rfl) (aK_ (news := List.flatMap Pc.cells p) gW_ (dP_ b3 47 10) rfl rfl hz hc C_ (by rw [bp_ Pc.cells 10 Pc.cells_len]) (fun v _ h => by exact h.2.2.1) (fun u hu => aN_ Pc.cells_one hu) (by simp only [maxLen]; ((try simp only [List.length_nil]); omega)) (by ((try simp only [List.length_nil]); omega)) rfl fun sv1 Hr1 hr1 => ?_)))))
    refine al_ List.perm_append_comm ?_
    have hq1 : aR_ 47 10 sv1 (List.length (([] : List Pc) ++ p)) (List.flatMap Pc.cells (([] : List Pc) ++ p)) Hr1 := by rw [List.length_append, List.flatMap_append]; exact hr1
    refine d_ (w_ rfl (N_ (fun _ a b => ⟨Vw.sat.sub (a.perm i_), b⟩) (W_ 4 rfl (by kernel_rfl) (bt_ hq1 (f_ S_) fun bad bcap hbad hcbad hmbad hzbad => ?_))))
    subst hbad
    refine a_ (av_ eo_ rfl rfl) rfl (d_ (w_ rfl (N_ (fun _ a b => ⟨Vw.sat.sub (a.perm i_), b.2⟩) (W_ 5 rfl (by kernel_rfl) (T_ 1 an_ rfl rfl rfl rfl rfl rfl (d_ (w_ rfl (N_ (fun _ a b => ⟨Vw.sat.sub (a.perm i_), b.2⟩) (ae_ 0 [6] (by kernel_rfl) (fun _ a b => ⟨Vw.sat.sub (a.perm i_), b.2⟩) ?_)))))))))
    refine o_ rfl (g_ rfl) rfl (ad_ (ab_ (by kernel_rfl) (b_ rfl (E_ ?_))))
    exact dn_ ⟨((Wk.mk (([] : List Pc) ++ p) bad bcap c1), 0), ⟨c1, (by assumption : e1 = 0) ▸ hA1, fun _ => ⟨rfl, rfl, ⟨hcbad, hmbad, hzbad, hA1.ok⟩⟩, fun q => absurd rfl q⟩⟩ (fun aa v h1 h2 => db_ (us := Wk.cells (Wk.mk (([] : List Pc) ++ p) bad bcap c1)) 1 Tryz.results35 bf_ an_ rfl rfl rfl rfl aa v h1 h2) I_ (fun v _ h => by exact ⟨h.1, h.2.1, h.2.2.1, trivial⟩)
  · skip
    replace hr1 := ba_ hr1
    refine u_ rfl (h_ (c_ (a_ (av_ eo_ rfl rfl) rfl (a_ (e_ rfl) rfl (T_ 1 an_ rfl rfl rfl rfl rfl rfl (a_ (g_ rfl) rfl (d_ (b_ rfl (E_ ?_)))))))))
    exact dn_ ⟨((Wk.mk [] none 0 (Cl.mk [] none 0 [] none 0)), e1), ⟨c1, hA1, fun q => absurd q (by assumption), fun _ => rfl⟩⟩ (fun aa v h1 h2 => db_ (us := Wk.cells (Wk.mk [] none 0 (Cl.mk [] none 0 [] none 0))) 1 Tryz.results35 bf_ an_ rfl rfl rfl rfl aa v h1 h2) I_ (fun v _ h => by exact ⟨.inl rfl, .inl rfl, .inl rfl, trivial⟩)
theorem pR_ (w : Wk) (hsm : ∀ x ∈ w.ps, x.sm) (hp : w.ps.length ≤ 100) (h3 : w.cl.atoms.length ≤ 1000000000000) (h4 : w.cl.facts.length ≤ 1000000000000) : Tri Tryz.prog 38 #[Wk.val w] [] [aC_ (Wk.pad w) (List.flatMap Pc.cells (Wk.ps w)), aC_ (Cl.aad (Wk.cl w)) (List.flatMap aM_ (Cl.atoms (Wk.cl w))), aC_ (Cl.fad (Wk.cl w)) (List.flatMap Fc.cells (Cl.facts (Wk.cl w)))] (fun e : {e : Int // gM_ w e} => .int .i64 e.1) (fun _ => []) (fun _ => []) := by
  refine R_ Tryz.func38 rfl rfl Tryz.ntmps38 rfl fun v0 => ?_
  refine h_ (c_ (bn_ rfl rfl fun b1 => ?_))
  refine a_ (g_ rfl) rfl (d_ (b_ rfl (h_ (c_ (a_ (l_ aA_ rfl rfl rfl bC_) rfl (a_ (t_ 0 ci_ rfl rfl rfl) rfl (V_ (lq_ (Wk.ps w) (Wk.pad w) (Wk.pcap w) (by omega) hsm) rfl I_ (fun v _ h => by exact ⟨h.1, trivial⟩) rfl fun _ => ?_)))))))
  refine a_ (g_ rfl) rfl (d_ (b_ rfl (h_ (h_ (c_ (a_ (e_ rfl) rfl (x_ (bN_ rfl rfl) rfl fun r1 hr1 => ?_)))))))
  refine d_ (b_ rfl ?_)
  cases r1
  · skip
    replace hr1 := bb_ hr1
    have hckw := hr1
    refine v_ rfl (B_ (b_ rfl (h_ (c_ (a_ (l_ aA_ rfl rfl rfl bC_) rfl (a_ (t_ 0 ci_ rfl rfl rfl) rfl (V_ (mh_ (Wk.ps w) (Wk.pad w) (Wk.pcap w) 1073741824 hsm (by omega)) rfl I_ (fun v _ h => by exact ⟨h.1, trivial⟩) rfl fun ⟨⟨c1, e1⟩, hA1⟩ => ?_)))))))
    dsimp only
    dsimp only at hA1
    refine a_ (e_ rfl) rfl (a_ (am_ rfl rfl) rfl (a_ (am_ rfl rfl) rfl (ao_ dq_ rfl fun b2 => ?_)))
    refine T_ 0 Z_ rfl rfl rfl rfl rfl rfl (a_ (g_ rfl) rfl (d_ (b_ rfl (h_ (h_ (c_ (a_ (e_ rfl) rfl (x_ (bN_ rfl rfl) rfl fun r2 hr2 => ?_))))))))
    refine a_ (e_ rfl) rfl ?_
    cases r2
    · skip
      replace hr2 := bb_ hr2
      refine p_ rfl rfl (a_ (X_ 0 aU_ Z_ rfl rfl rfl) rfl (p_ rfl rfl (a_ (l_ aA_ rfl rfl rfl Z_) rfl (p_ rfl rfl (a_ (X_ 1 aU_ Z_ rfl rfl rfl) rfl (p_ rfl rfl (au_ (mL_ c1 (Wk.cl w) (by have := hA1.len; omega) (by have := hA1.len; omega) (by omega) (by omega)) rfl I_ (fun v _ h => by exact ⟨h.1, h.2.1, h.2.2.2.1, h.2.2.2.2.1, trivial⟩) rfl fun r3 hr3 => ?_)))))))
      refine p_ rfl rfl (a_ (bZ_ rfl) rfl (a_ (A_ rfl rfl) rfl (d_ (b_ rfl ?_))))
      cases r3
      · skip
        simp at hr3
        refine u_ rfl (h_ (c_ (a_ (g_ rfl) rfl (d_ (b_ rfl (E_ ?_))))))
        exact as_ Tryz.results38 ⟨1, by unfold gM_; rw [if_neg (fun q => q hckw)]; exact ⟨c1, e1, hA1, by rw [if_neg (fun q => by first | exact absurd q.1 (by assumption) | (have := q.2; simp_all))]⟩⟩ rfl I_ (fun _ _ _ => trivial)
      · skip
        simp at hr3
        refine v_ rfl (B_ (b_ rfl (h_ (c_ (a_ (g_ rfl) rfl (d_ (b_ rfl (E_ ?_))))))))
        exact as_ Tryz.results38 ⟨0, by unfold gM_; rw [if_neg (fun q => q hckw)]; exact ⟨c1, e1, hA1, by rw [if_pos ⟨by assumption, by simpa using hr3⟩]⟩⟩ rfl I_ (fun _ _ _ => trivial)
    · skip
      replace hr2 := ba_ hr2
      refine r_ rfl rfl rfl rfl (r_ rfl rfl rfl rfl (r_ rfl rfl rfl rfl (r_ rfl rfl rfl rfl (r_ rfl rfl rfl rfl (a_ (G_ rfl rfl) rfl (d_ (b_ rfl (u_ rfl (h_ ?_)))))))))
      refine c_ (a_ (g_ rfl) rfl (d_ (b_ rfl (E_ ?_))))
      exact as_ Tryz.results38 ⟨1, by unfold gM_; rw [if_neg (fun q => q hckw)]; exact ⟨c1, e1, hA1, by rw [if_neg (fun q => by first | exact absurd q.1 (by assumption) | (have := q.2; simp_all))]⟩⟩ rfl I_ (fun _ _ _ => trivial)
  · skip
    replace hr1 := ba_ hr1
    refine u_ rfl (h_ (c_ (a_ (e_ rfl) rfl (a_ (g_ rfl) rfl (d_ (b_ rfl (E_ ?_)))))))
    exact as_ Tryz.results38 ⟨(bK_ (Wk.ps w)), by unfold gM_; rw [if_pos (by assumption)]⟩ rfl I_ (fun _ _ _ => trivial)
theorem nM_ (w : Wk) (hp : w.ps.length ≤ 1099511627776) (hbig : ∀ x ∈ w.ps, x.big) (hfl : w.cl.facts.length ≤ 10000000000000) (hal : w.cl.atoms.length ≤ 10000000000000) (hbf : ∀ f ∈ w.cl.facts, f.a.length ≤ 140737488351232 ∧ f.b.length ≤ 140737488351232 ∧ f.r.length ≤ 140737488351232) : Tri Tryz.prog 32 #[Wk.val w] [] [aC_ (Wk.pad w) (List.flatMap Pc.cells (Wk.ps w)), aC_ (Cl.aad (Wk.cl w)) (List.flatMap aM_ (Cl.atoms (Wk.cl w))), aC_ (Cl.fad (Wk.cl w)) (List.flatMap Fc.cells (Cl.facts (Wk.cl w)))] (fun b : {b : Bool // b = true → w.ps.length ≤ 30 ∧ (∀ x ∈ w.ps, x.sm) ∧ w.cl.facts.length ≤ 600 ∧ w.cl.atoms.length ≤ 60} => .bool b.1) (fun _ => []) (fun _ => []) := by
 refine R_ Tryz.func32 rfl rfl Tryz.ntmps32 rfl fun v0 => ?_
 refine h_ (c_ (bn_ rfl rfl fun b1 => ?_))
 refine a_ (g_ rfl) rfl (d_ (b_ rfl (h_ (c_ (a_ (g_ rfl) rfl (d_ (b_ rfl (h_ (h_ ?_)))))))))
 refine c_ (a_ (l_ aA_ rfl rfl rfl Z_) rfl (a_ (l_ aB_ rfl rfl rfl bs_) rfl (a_ (t_ 0 bB_ rfl rfl rfl) rfl (a_ (ak_ F_ rfl) rfl (a_ (e_ rfl) rfl (d_ (b_ rfl (Q_ ?_))))))))
 refine aG_ (ι := {y : Nat × Int // y.1 ≤ List.length (Cl.facts (Wk.cl w))}) (fun y => [(1, zp_ b1 0), (2, .bool false), (3, .int .i64 y.1.2), (10, .slice (Cl.fad (Wk.cl w)) (List.length (Cl.facts (Wk.cl w))) (Cl.fcap (Wk.cl w))), (11, .int .i64 (List.length (Cl.facts (Wk.cl w)) : Int)), (12, .int .i64 (y.1.1 : Int))]) (fun y => ((b1, .cells #[.slice (Wk.pad w) (List.length (Wk.ps w)) (Wk.pcap w), .slice (Cl.aad (Wk.cl w)) (List.length (Cl.atoms (Wk.cl w))) (Cl.acap (Wk.cl w)), .slice (Cl.fad (Wk.cl w)) (List.length (Cl.facts (Wk.cl w))) (Cl.fcap (Wk.cl w))] 50 (0, 0)) :: [])) (fun y => [aC_ (Wk.pad w) (List.flatMap Pc.cells (Wk.ps w)), aC_ (Cl.aad (Wk.cl w)) (List.flatMap aM_ (Cl.atoms (Wk.cl w))), aC_ (Cl.fad (Wk.cl w)) (List.flatMap Fc.cells (Cl.facts (Wk.cl w)))]) (fun y => List.length (Cl.facts (Wk.cl w)) - y.1.1) ⟨((0 : Nat), 0), by simp⟩ ⟨rfl, rfl, rfl, rfl, rfl, rfl, trivial⟩ i_ (fun _ _ h => h) ?_
 rintro ⟨⟨i, zs⟩, hi_i⟩
 dsimp only at hi_i ⊢
 refine h_ (c_ (x_ (ax_ rfl rfl) rfl fun r1 hr1 => ?_))
 refine d_ (b_ rfl (h_ ?_))
 cases r1
 ·
  replace hr1 := of_decide_eq_false hr1
  refine v_ rfl (at_ rfl (b_ rfl (h_ (h_ (c_ (a_ (l_ aA_ rfl rfl rfl Z_) rfl (a_ (l_ aB_ rfl rfl rfl cA_) rfl (a_ (t_ 0 eC_ rfl rfl rfl) rfl (a_ (ak_ z_ rfl) rfl ?_)))))))))
  refine a_ (e_ rfl) rfl (d_ (b_ rfl (Q_ ?_)))
  refine aG_ (ι := {y : Nat × Int // y.1 ≤ List.length (Cl.atoms (Wk.cl w))}) (fun y => [(1, zp_ b1 0), (2, .bool false), (3, .int .i64 y.1.2), (10, .slice (Cl.fad (Wk.cl w)) (List.length (Cl.facts (Wk.cl w))) (Cl.fcap (Wk.cl w))), (11, .int .i64 (List.length (Cl.facts (Wk.cl w)) : Int)), (12, .int .i64 (i : Int)), (32, .slice (Cl.aad (Wk.cl w)) (List.length (Cl.atoms (Wk.cl w))) (Cl.acap (Wk.cl w))), (33, .int .i64 (List.length (Cl.atoms (Wk.cl w)) : Int)), (34, .int .i64 (y.1.1 : Int))]) (fun y => ((b1, .cells #[.slice (Wk.pad w) (List.length (Wk.ps w)) (Wk.pcap w), .slice (Cl.aad (Wk.cl w)) (List.length (Cl.atoms (Wk.cl w))) (Cl.acap (Wk.cl w)), .slice (Cl.fad (Wk.cl w)) (List.length (Cl.facts (Wk.cl w))) (Cl.fcap (Wk.cl w))] 50 (0, 0)) :: [])) (fun y => [aC_ (Wk.pad w) (List.flatMap Pc.cells (Wk.ps w)), aC_ (Cl.aad (Wk.cl w)) (List.flatMap aM_ (Cl.atoms (Wk.cl w))), aC_ (Cl.fad (Wk.cl w)) (List.flatMap Fc.cells (Cl.facts (Wk.cl w)))]) (fun y => List.length (Cl.atoms (Wk.cl w)) - y.1.1) ⟨((0 : Nat), zs), by simp⟩ ⟨rfl, rfl, rfl, rfl, rfl, rfl, rfl, rfl, rfl, trivial⟩ i_ (fun _ _ h => h) ?_
  rintro ⟨⟨j, zt⟩, hi_j⟩
  dsimp only at hi_j ⊢
  refine h_ (c_ (x_ (ax_ rfl rfl) rfl fun r2 hr2 => ?_))
  refine d_ (b_ rfl (h_ ?_))
  cases r2
  ·
   replace hr2 := of_decide_eq_false hr2
   refine v_ rfl (at_ rfl (b_ rfl (h_ (c_ (a_ (l_ aA_ rfl rfl rfl bC_) rfl (a_ (t_ 0 ci_ rfl rfl rfl) rfl (V_ (nb_ (Wk.ps w) (Wk.pad w) (Wk.pcap w) hp hbig) rfl I_ (fun v _ h => by exact ⟨h.1, trivial⟩) rfl fun ⟨sb, hsb⟩ => ?_)))))))
   dsimp only
   refine a_ (e_ rfl) rfl ?_
   cases sb
   ·
    refine r_ rfl rfl rfl rfl (r_ rfl rfl rfl rfl (r_ rfl rfl rfl rfl (r_ rfl rfl rfl rfl (r_ rfl rfl rfl rfl (a_ (A_ rfl rfl) rfl (a_ (e_ rfl) rfl (r_ rfl rfl rfl rfl (r_ rfl rfl rfl rfl (r_ rfl rfl rfl rfl ?_)))))))))
    refine r_ rfl rfl rfl rfl (r_ rfl rfl rfl rfl (a_ (A_ rfl rfl) rfl (a_ (e_ rfl) rfl (r_ rfl rfl rfl rfl (r_ rfl rfl rfl rfl (a_ (A_ rfl rfl) rfl (a_ (g_ rfl) rfl (d_ (b_ rfl ?_)))))))))
    refine E_ ?_
    exact as_ Tryz.results32 ⟨false, fun h => by cases h⟩ rfl I_ (fun _ _ _ => trivial)
   ·
    refine p_ rfl rfl (a_ (l_ aA_ rfl rfl rfl Z_) rfl (p_ rfl rfl (a_ (l_ aB_ rfl rfl rfl bs_) rfl (p_ rfl rfl (a_ (t_ 0 bB_ rfl rfl rfl) rfl (p_ rfl rfl (a_ (ak_ F_ rfl) rfl (p_ rfl rfl (x_ (bS_ rfl rfl) rfl fun r3 hr3 => ?_)))))))))
    refine a_ (G_ rfl rfl) rfl (a_ (e_ rfl) rfl ?_)
    cases r3
    ·
     replace hr3 := of_decide_eq_false hr3
     refine r_ rfl rfl rfl rfl (r_ rfl rfl rfl rfl (r_ rfl rfl rfl rfl (r_ rfl rfl rfl rfl (r_ rfl rfl rfl rfl (a_ (A_ rfl rfl) rfl (a_ (e_ rfl) rfl (r_ rfl rfl rfl rfl (r_ rfl rfl rfl rfl (a_ (A_ rfl rfl) rfl ?_)))))))))
     refine a_ (g_ rfl) rfl (d_ (b_ rfl (E_ ?_)))
     exact as_ Tryz.results32 ⟨false, fun h => by cases h⟩ rfl I_ (fun _ _ _ => trivial)
    ·
     replace hr3 := of_decide_eq_true hr3
     refine p_ rfl rfl (a_ (l_ aA_ rfl rfl rfl Z_) rfl (p_ rfl rfl (a_ (l_ aB_ rfl rfl rfl cA_) rfl (p_ rfl rfl (a_ (t_ 0 eC_ rfl rfl rfl) rfl (p_ rfl rfl (a_ (ak_ z_ rfl) rfl (p_ rfl rfl (x_ (bS_ rfl rfl) rfl fun r4 hr4 => ?_)))))))))
     refine a_ (G_ rfl rfl) rfl (a_ (e_ rfl) rfl ?_)
     cases r4
     ·
      replace hr4 := of_decide_eq_false hr4
      refine r_ rfl rfl rfl rfl (r_ rfl rfl rfl rfl (a_ (A_ rfl rfl) rfl (a_ (g_ rfl) rfl (d_ (b_ rfl (E_ ?_))))))
      exact as_ Tryz.results32 ⟨false, fun h => by cases h⟩ rfl I_ (fun _ _ _ => trivial)
     ·
      replace hr4 := of_decide_eq_true hr4
      refine p_ rfl rfl (a_ (e_ rfl) rfl (p_ rfl rfl (x_ (bS_ rfl rfl) rfl fun r5 hr5 => ?_)))
      refine a_ (G_ rfl rfl) rfl (a_ (g_ rfl) rfl (d_ (b_ rfl (E_ ?_))))
      exact as_ Tryz.results32 ⟨r5, fun _ => ⟨(hsb rfl).1, (hsb rfl).2, by omega, by omega⟩⟩ rfl I_ (fun _ _ _ => trivial)
  ·
   replace hr2 := of_decide_eq_true hr2
   have hlx2 : j < List.length (Cl.atoms (Wk.cl w)) := by omega
   obtain ⟨x2, hx2⟩ : ∃ e0, (Cl.atoms (Wk.cl w))[j]? = some e0 := ⟨_, List.getElem?_eq_getElem hlx2⟩
   have hmx2 : x2 ∈ (Cl.atoms (Wk.cl w)) := List.mem_of_getElem? hx2
   refine u_ rfl (B_ (b_ rfl (h_ (Q_ (h_ (c_ (a_ (aa_ z_ j_ rfl rfl (fun v _ h => az_ (n := 1) aq_ (by decide) (by exact h.2.1) hx2) (by omega) (by first | omega | (simp; done))) rfl (a_ (aL_ (ad := (Cl.aad (Wk.cl w))) q_ rfl (fun v _ h => by exact h.2.1) (ac_ aq_ hx2 0 _ rfl)) rfl (a_ (g_ rfl) rfl ?_)))))))))
   refine d_ (b_ rfl (c_ (a_ (e_ rfl) rfl (a_ (e_ rfl) rfl (a_ (bM_ U_ rfl) rfl (a_ (iv_ rfl rfl) rfl (a_ (g_ rfl) rfl (d_ (b_ rfl ?_)))))))))
   refine c_ (a_ (O_ rfl rfl rfl (af_ (by omega) (by omega))) rfl (a_ (e_ rfl) rfl (d_ (w_ rfl ?_))))
   exact Y_ ⟨(j + 1, (IntKind.wrap .i64 (zt + (x2.length : Int)))), hlx2⟩ (by dsimp only; omega) ⟨rfl, rfl, rfl, rfl, rfl, rfl, rfl, rfl, rfl, trivial⟩ i_ (fun _ _ h => h)
 ·
  replace hr1 := of_decide_eq_true hr1
  have hlx1 : i < List.length (Cl.facts (Wk.cl w)) := by omega
  obtain ⟨x1, hx1⟩ : ∃ e0, (Cl.facts (Wk.cl w))[i]? = some e0 := ⟨_, List.getElem?_eq_getElem hlx1⟩
  have hmx1 : x1 ∈ (Cl.facts (Wk.cl w)) := List.mem_of_getElem? hx1
  obtain ⟨q1, q2, q3⟩ := hbf x1 hmx1
  refine u_ rfl (B_ (b_ rfl (h_ (Q_ (h_ (c_ (a_ (aa_ F_ D_ rfl rfl (fun v _ h => az_ (n := 6) Fc.cells_len (by decide) (by exact h.2.2.1) hx1) (by omega) (by first | omega | (simp; done))) rfl (a_ (aT_ (ad := (Cl.fad (Wk.cl w))) (us := Fc.cells x1) ah_ D_ rfl (fun v _ h => by exact h.2.2.1) (Fc.cells_len _) (ac_ Fc.cells_len hx1)) rfl (ao_ ag_ rfl fun b2 => ?_)))))))))
  refine T_ 0 D_ rfl rfl rfl rfl rfl rfl (d_ (b_ rfl (c_ (a_ (e_ rfl) rfl (a_ (l_ n_ rfl rfl rfl j_) rfl (a_ (t_ 0 q_ rfl rfl rfl) rfl (a_ (bM_ U_ rfl) rfl (a_ (l_ n_ rfl rfl rfl j_) rfl (a_ (t_ 0 q_ rfl rfl rfl) rfl ?_)))))))))
  refine a_ (bM_ U_ rfl) rfl (a_ (O_ rfl rfl rfl (af_ (by omega) (by omega))) rfl (a_ (l_ n_ rfl rfl rfl j_) rfl (a_ (t_ 0 q_ rfl rfl rfl) rfl (a_ (bM_ U_ rfl) rfl (a_ (O_ rfl rfl rfl (af_ (by omega) (by omega))) rfl (a_ (iv_ rfl rfl) rfl (a_ (g_ rfl) rfl (d_ (b_ rfl ?_)))))))))
  refine c_ (a_ (O_ rfl rfl rfl (af_ (by omega) (by omega))) rfl (a_ (e_ rfl) rfl (d_ (w_ rfl ?_))))
  exact Y_ ⟨(i + 1, (IntKind.wrap .i64 (zs + ((((Fc.a x1).length : Int) + ((Fc.b x1).length : Int)) + ((Fc.r x1).length : Int))))), hlx1⟩ (by dsimp only; omega) ⟨rfl, rfl, rfl, rfl, rfl, rfl, trivial⟩ (f_ i_) (fun _ _ h => h)
end Go.Proofs.YtpdbbglpbngeiaaGreatDoor
namespace Go.Proofs.YtpdbbglpbngeiaaGreatDoor
open Go Go.Sx Go.Proofs
attribute [local irreducible] Code.wp wpList wpAnyH
open Go.Vs
structure Scan (wh : List Int) (m i n : Nat) : Prop where
  le : n ≤ wh.length
  ok : jz_ i (wh.take n)
  far : jz_ m wh → ∀ (k : Nat) (x : Int), n ≤ k → wh[k]? = some x → (i : Int) ≤ x
theorem Scan.start (wh : List Int) (m : Nat) : Scan wh m 0 0 := ⟨Nat.zero_le _, by simp [jz_], fun h k x _ hx => (h.1 x (List.mem_of_getElem? hx)).1⟩
theorem Scan.all {wh : List Int} {m n : Nat} (h : Scan wh m m n) (hn : n = wh.length) : jz_ m wh := by
  have := h.ok
  rwa [hn, List.take_length] at this
theorem Scan.bad {wh : List Int} {m n : Nat} (h : Scan wh m m n) (hn : n < wh.length) : ¬ jz_ m wh := fun q => by
  have h1 := h.far q n _ (Nat.le_refl _) (List.getElem?_eq_getElem hn)
  have h2 := (q.1 _ (List.getElem_mem hn)).2
  omega
end Go.Proofs.YtpdbbglpbngeiaaGreatDoor
namespace Go.Proofs.YtpdbbglpbngeiaaGreatDoor
open Go Go.Sx Go.Proofs
attribute [local irreducible] Code.wp wpList wpAnyH
open Go.Vs
theorem lb_ {p : List Pc} {bu : Int} {w v : Wk} {e f : Int} (h : cV_ p bu w e) (k : cV_ p bu v f) : w.ps = v.ps ∧ (w.cl.atoms = v.cl.atoms ∧ w.cl.facts = v.cl.facts) ∧ e = f := by
  obtain ⟨c, h1, h2, h3⟩ := h
  obtain ⟨d, k1, k2, k3⟩ := k
  obtain ⟨q1, q2, q3⟩ := kg_ h1 k1
  subst q3
  by_cases he : e = 0
  · obtain ⟨a1, a2, _⟩ := h2 he
    obtain ⟨b1, b2, _⟩ := k2 he
    rw [a1, a2, b1, b2]; exact ⟨rfl, ⟨q1, q2⟩, rfl⟩
  · rw [h3 he, k3 he]; exact ⟨rfl, ⟨rfl, rfl⟩, rfl⟩
set_option maxHeartbeats 1000000 in
theorem mv_ (p : List Pc) (pad : Option Addr) (pcap : Nat) (bu : Int) (w : Wk) (hp1 : p.length ≤ pcap) (hp2 : pcap ≤ 1099511627744) (hp3 : pad = none → pcap = 0) (hp4 : ∀ x ∈ p, x.big) (hwp : w.ps.length ≤ 1099511627776) (hwk1 : w.ps.length ≤ w.pcap) (hwk2 : w.pad = none → w.pcap = 0) (hwbig : ∀ x ∈ w.ps, x.big) (hwf : w.cl.facts.length ≤ 10000000000000) (hwa : w.cl.atoms.length ≤ 10000000000000) (hwb : ∀ f ∈ w.cl.facts, f.a.length ≤ 140737488351232 ∧ f.b.length ≤ 140737488351232 ∧ f.r.length ≤ 140737488351232) : Tri Tryz.prog 7 #[.slice pad (List.length p) pcap, .int .i64 bu, Wk.val w] [] [aC_ pad (List.flatMap Pc.cells p), aC_ (Wk.pad w) (List.flatMap Pc.cells (Wk.ps w)), aC_ (Cl.aad (Wk.cl w)) (List.flatMap aM_ (Cl.atoms (Wk.cl w))), aC_ (Cl.fad (Wk.cl w)) (List.flatMap Fc.cells (Cl.facts (Wk.cl w))), gK_] (fun _ : Unit => .bool true) (fun _ => []) (fun _ => []) := by
 refine R_ Tryz.func7 rfl rfl Tryz.ntmps7 rfl fun v0 => ?_
 refine h_ (c_ (bn_ rfl rfl fun b1 => ?_))
 refine a_ (g_ rfl) rfl (d_ (b_ rfl (h_ (h_ (c_ (V_ (on_) rfl I_ (fun v _ h => by exact ⟨h.2.2.2.2.1, trivial⟩) rfl fun _ => ?_))))))
 refine a_ (bZ_ rfl) rfl (d_ (b_ rfl (v_ rfl (B_ (b_ rfl (h_ (h_ (c_ (a_ (e_ rfl) rfl ?_)))))))))
 refine V_ (nb_ p pad pcap (by omega) hp4) rfl I_ (fun v _ h => by exact ⟨h.1, trivial⟩) rfl fun ⟨sbp, hsbp⟩ => ?_
 dsimp only
 refine a_ (bZ_ rfl) rfl (a_ (e_ rfl) rfl ?_)
 cases sbp
 ·
  refine r_ rfl rfl rfl rfl (r_ rfl rfl rfl rfl (r_ rfl rfl rfl rfl (a_ (G_ rfl rfl) rfl (a_ (e_ rfl) rfl (r_ rfl rfl rfl rfl (r_ rfl rfl rfl rfl (r_ rfl rfl rfl rfl (r_ rfl rfl rfl rfl (a_ (G_ rfl rfl) rfl ?_)))))))))
  refine a_ (e_ rfl) rfl (r_ rfl rfl rfl rfl (r_ rfl rfl rfl rfl (r_ rfl rfl rfl rfl (r_ rfl rfl rfl rfl (r_ rfl rfl rfl rfl (a_ (G_ rfl rfl) rfl (d_ (b_ rfl (u_ rfl ?_)))))))))
  refine h_ (c_ (a_ (g_ rfl) rfl (d_ (b_ rfl (E_ ?_)))))
  exact as_ qy_ () rfl I_ (fun _ _ _ => trivial)
 ·
  obtain ⟨hp5, hp6⟩ := hsbp rfl
  refine p_ rfl rfl (a_ (X_ 0 bf_ an_ rfl rfl rfl) rfl (p_ rfl rfl (V_ (nM_ w hwp hwbig hwf hwa hwb) rfl I_ (fun v _ h => by exact ⟨h.2.1, h.2.2.1, h.2.2.2.1, trivial⟩) rfl fun ⟨sbw, hsbw⟩ => ?_)))
  dsimp only
  refine p_ rfl rfl (a_ (bZ_ rfl) rfl (a_ (A_ rfl rfl) rfl (a_ (e_ rfl) rfl ?_)))
  cases sbw
  ·
   refine r_ rfl rfl rfl rfl (r_ rfl rfl rfl rfl (r_ rfl rfl rfl rfl (r_ rfl rfl rfl rfl (a_ (G_ rfl rfl) rfl (a_ (e_ rfl) rfl (r_ rfl rfl rfl rfl (r_ rfl rfl rfl rfl (r_ rfl rfl rfl rfl (r_ rfl rfl rfl rfl ?_)))))))))
   refine r_ rfl rfl rfl rfl (a_ (G_ rfl rfl) rfl (d_ (b_ rfl (u_ rfl (h_ (c_ (a_ (g_ rfl) rfl (d_ (b_ rfl ?_)))))))))
   refine E_ ?_
   exact as_ qy_ () rfl I_ (fun _ _ _ => trivial)
  ·
   obtain ⟨hw5, hw6, hw7, hw8⟩ := hsbw rfl
   refine p_ rfl rfl (a_ (e_ rfl) rfl (p_ rfl rfl (aJ_ cJ_ bC_ ca_ rfl rfl rfl rfl rfl rfl fun b2 => ?_)))
   refine bw_ (List.flatMap PL.cells [(PL.mk p pad pcap)]) i_ rfl ?_
   refine p_ rfl rfl ?_
   refine V_ (jZ_ [(PL.mk p pad pcap)] (some ⟨b2, 0, none⟩) 1 (fun y hy => by simp only [List.mem_cons, List.not_mem_nil, or_false] at hy; rcases hy with rfl; exact ⟨hp1, hp3, by dsimp only; omega⟩) (by simp) (fun y hy => by simp only [dA_, List.flatMap_cons, List.flatMap_nil, List.append_nil] at hy; exact hp6 y hy) (by simp only [dA_, List.flatMap_cons, List.flatMap_nil, List.append_nil]; omega)) rfl I_ (fun v _ h => by refine ⟨h.1, fun y hy => ?_, trivial⟩; simp only [List.mem_cons, List.not_mem_nil, or_false] at hy; rcases hy with rfl; exact h.2.1) rfl fun lb => ?_
   refine p_ rfl rfl (a_ (bZ_ rfl) rfl (a_ (A_ rfl rfl) rfl (a_ (e_ rfl) rfl ?_)))
   cases lb
   ·
    refine r_ rfl rfl rfl rfl (r_ rfl rfl rfl rfl (r_ rfl rfl rfl rfl (r_ rfl rfl rfl rfl (r_ rfl rfl rfl rfl (a_ (G_ rfl rfl) rfl (d_ (b_ rfl (u_ rfl (h_ ?_)))))))))
    refine c_ (a_ (g_ rfl) rfl (d_ (b_ rfl (E_ ?_))))
    exact as_ qy_ () rfl I_ (fun _ _ _ => trivial)
   ·
    refine p_ rfl rfl (a_ (l_ aA_ rfl rfl rfl bC_) rfl (p_ rfl rfl (a_ (t_ 0 ci_ rfl rfl rfl) rfl (p_ rfl rfl (aJ_ cJ_ bC_ ca_ rfl rfl rfl rfl rfl rfl fun b3 => ?_)))))
    refine bw_ (List.flatMap PL.cells [(PL.mk (Wk.ps w) (Wk.pad w) (Wk.pcap w))]) i_ rfl ?_
    refine p_ rfl rfl ?_
    refine V_ (jZ_ [(PL.mk (Wk.ps w) (Wk.pad w) (Wk.pcap w))] (some ⟨b3, 0, none⟩) 1 (fun y hy => by simp only [List.mem_cons, List.not_mem_nil, or_false] at hy; rcases hy with rfl; exact ⟨hwk1, hwk2, by dsimp only; omega⟩) (by simp) (fun y hy => by simp only [dA_, List.flatMap_cons, List.flatMap_nil, List.append_nil] at hy; exact hw6 y hy) (by simp only [dA_, List.flatMap_cons, List.flatMap_nil, List.append_nil]; omega)) rfl I_ (fun v _ h => by refine ⟨h.1, fun y hy => ?_, trivial⟩; simp only [List.mem_cons, List.not_mem_nil, or_false] at hy; rcases hy with rfl; exact h.2.2.2.1) rfl fun lb2 => ?_
    refine p_ rfl rfl (a_ (bZ_ rfl) rfl (a_ (A_ rfl rfl) rfl (d_ (b_ rfl ?_))))
    cases lb2
    ·
     refine u_ rfl (h_ (c_ (a_ (g_ rfl) rfl (d_ (b_ rfl (E_ ?_))))))
     exact as_ qy_ () rfl I_ (fun _ _ _ => trivial)
    ·
     refine v_ rfl (B_ (b_ rfl (h_ (c_ (a_ (e_ rfl) rfl (a_ (e_ rfl) rfl (V_ (hk_ p pad pcap bu hp6 hp1 (by omega)) rfl I_ (fun v _ h => by exact ⟨h.2.2.1, h.2.2.2.2.2.2.1, trivial⟩) rfl fun ⟨⟨wx, e1⟩, hS1⟩ => ?_)))))))
     dsimp only
     dsimp only at hS1
     have hS1l := hS1.len
     refine a_ (e_ rfl) rfl (a_ (am_ rfl rfl) rfl (a_ (am_ rfl rfl) rfl (ao_ cB_ rfl fun b4 => ?_)))
     refine T_ 0 an_ rfl rfl rfl rfl rfl rfl (a_ (g_ rfl) rfl (d_ (b_ rfl (h_ (c_ (a_ (e_ rfl) rfl (a_ (e_ rfl) rfl (V_ (ox_ p pad pcap bu hp6 hp1 hp3 (by omega)) rfl I_ (fun v _ h => by exact ⟨h.2.2.2.2.2.1, trivial⟩) rfl fun ⟨⟨wy, ef⟩, hS2⟩ => ?_))))))))
     dsimp only
     dsimp only at hS2
     have hS2l := hS2.len
     obtain ⟨hu1, ⟨hu2, hu3⟩, hu4⟩ := lb_ hS1 hS2
     refine a_ (e_ rfl) rfl (a_ (am_ rfl rfl) rfl (a_ (am_ rfl rfl) rfl (ao_ cB_ rfl fun b5 => ?_)))
     refine T_ 0 an_ rfl rfl rfl rfl rfl rfl (a_ (g_ rfl) rfl (d_ (b_ rfl (h_ ?_))))
     refine aP_ (by kernel_rfl) ?_
     refine ae_ 14 [0, 1] (by kernel_rfl) (fun _ a b => ⟨a, b⟩) (o_ rfl (X_ 1 bf_ an_ rfl rfl rfl) rfl (o_ rfl (X_ 0 bf_ an_ rfl rfl rfl) rfl (ad_ (W_ 2 rfl (by kernel_rfl) (au_ (np_ wx wy (by omega) (by omega) (by omega) (by omega) (by omega) (by omega)) rfl I_ (fun v _ h => by exact ⟨h.2.2.2.1, h.2.2.2.2.1, h.2.2.2.2.2.1, h.1, h.2.1, h.2.2.1, trivial⟩) rfl fun r1 hr1 => ?_)))))
     refine d_ (w_ rfl (N_ (fun _ a b => ⟨a, b⟩) (ae_ 12 [3] (by kernel_rfl) (fun _ a b => ⟨a, b⟩) (o_ rfl (e_ rfl) rfl (ad_ ?_)))))
     cases r1
     ·
      simp at hr1
      simp [hu1, hu2, hu3] at hr1
     ·
      simp at hr1
      refine ae_ 7 [4, 5, 6, 7, 8] (by kernel_rfl) (fun _ a b => ⟨a, b⟩) (ay_ rfl rfl rfl (e_ rfl) rfl (ay_ rfl rfl rfl (e_ rfl) rfl ?_))
      refine cY_ rfl rfl rfl (aI_ rfl rfl) rfl fun r2 hr2 => ?_
      refine o_ rfl (G_ rfl rfl) rfl (o_ rfl (e_ rfl) rfl (ad_ ?_))
      cases r2
      ·
       replace hr2 := ne_of_beq_false hr2
       exact absurd hu4 hr2
      ·
       replace hr2 := eq_of_beq hr2
       refine ae_ 5 [9, 11] (by kernel_rfl) (fun _ a b => ⟨a, b⟩) (ay_ rfl rfl rfl (X_ 2 bf_ an_ rfl rfl rfl) rfl (ay_ rfl rfl rfl (X_ 2 bf_ an_ rfl rfl rfl) rfl (ad_ (W_ 10 rfl (by kernel_rfl) (p_ rfl rfl (V_ (pm_ w hw6 (by omega) (by omega) (by omega)) rfl I_ (fun v _ h => by exact ⟨h.2.2.2.2.2.2.2.2.2.1, h.2.2.2.2.2.2.2.2.2.2.1, h.2.2.2.2.2.2.2.2.2.2.2.1, h.2.2.2.2.2.2.2.2.2.2.2.2.1, trivial⟩) rfl fun ⟨k1, hk1⟩ => ?_))))))
       dsimp only
       have hk1c := hk1
       refine d_ (w_ rfl (N_ (fun _ a b => ⟨a, b⟩) (W_ 12 rfl (by kernel_rfl) (p_ rfl rfl (V_ (pR_ w hw6 (by omega) (by omega) (by omega)) rfl I_ (fun v _ h => by exact ⟨h.2.2.2.2.2.2.2.2.2.1, h.2.2.2.2.2.2.2.2.2.2.1, h.2.2.2.2.2.2.2.2.2.2.2.1, trivial⟩) rfl fun ⟨k2, hk2⟩ => ?_)))))
       dsimp only
       have hkk := hk1.uniq hk2
       refine d_ (w_ rfl (N_ (fun _ a b => ⟨a, b⟩) (ae_ 0 [13, 14, 15] (by kernel_rfl) (fun _ a b => ⟨a, b⟩) ?_)))
       refine cY_ rfl rfl rfl (aI_ rfl rfl) rfl fun r3 hr3 => ?_
       refine o_ rfl (G_ rfl rfl) rfl (o_ rfl (g_ rfl) rfl (ad_ (ab_ (by kernel_rfl) (b_ rfl (E_ ?_)))))
       exact as_ qy_ () (y_ rfl (by rw [← hr3]; exact beq_iff_eq.2 hkk)) I_ (fun _ _ _ => trivial)
end Go.Proofs.YtpdbbglpbngeiaaGreatDoor
namespace Go.Proofs.YtpdbbglpbngeiaaGreatDoor
open Go Go.Sx Go.Proofs
attribute [local irreducible] Code.wp wpList wpAnyH
open Go.Vs Go.ChangeShapes Go.WideShapes Go.ChangeAt Go.RowKit
structure Tys3 (P : Program) (tI tU tPs tK tW tH tHs tIs : TypeId) : Prop where
  u : P.underlying tU = some (.int .u32)
  w : ∃ fs, P.underlying tW = some (.struct fs) ∧ fs.toList.map (fun f => (f.type, f.offset)) = [(tPs, 0), (tK, 1)]
  h : ∃ fs, P.underlying tH = some (.struct fs) ∧ fs.toList.map (fun f => (f.type, f.offset)) = [(tPs, 0), (tU, 1)]
  hs : P.underlying tHs = some (.slice tH)
  is : P.underlying tIs = some (.slice tI)
  cu : P.cellsOf tU = 1
  cps : P.cellsOf tPs = 1
  cw : P.cellsOf tW = 3
  ch : P.cellsOf tH = 2
  bh : P.bytesOf tH = 32
  bi : P.bytesOf tI = 8
structure bigW (W : World) (w : Wk) : Prop where
  row : bq_ (vw W) w.pad (w.ps.flatMap Pc.cells)
  big : ∀ x ∈ w.ps, x.big
  le : w.ps.length ≤ w.pcap
  nz : w.pad = none → w.pcap = 0
  mx : w.pcap ≤ 1099511627744
  cl : bigC W w.cl
theorem le_ {H : Type} {enc : TypeId × Value → H} {P : Program} {W : World} {ts te : TypeId} (hs : P.underlying ts = some (.slice te)) {n : Nat} {ad : Option Addr} {len cap : Nat} {x : DataW H × List MemPlace} (h : DataW.trod enc P W 0 (fun _ => true) true n ts [.slice ad len cap] = some x) : ad = none → cap = 0 := by
  intro e
  subst e
  rcases DataW.trod_slice hs h with ⟨h0, _⟩ | ⟨a, l, c, elems, rest, m, hn, h0, _⟩
  · cases h0; rfl
  · cases h0
section
variable {H : Type} {enc : TypeId × Value → H} {P : Program} {W : World} {tI tB tS tSs tC tCs tA tAs tP tPs tF tFs tK tU tW tH tHs tIs : TypeId} (X : Tys P tI tB tS tSs tC tCs tA tAs tP tPs) (Z : Tys2 P tI tS tSs tF tFs tK) (Y : Tys3 P tI tU tPs tK tW tH tHs tIs) {base : Nat} {v : Value} {d : DataW H} {ps : List MemPlace}
include X Y
end
section
variable {H : Type} {enc : TypeId × Value → H} {P : Program} {W : World} {tI tB tS tSs tC tCs tA tAs tP tPs tF tFs tK tU tW tH tHs tIs : TypeId} (X : Tys P tI tB tS tSs tC tCs tA tAs tP tPs) (Z : Tys2 P tI tS tSs tF tFs tK) (Y : Tys3 P tI tU tPs tK tW tH tHs tIs) {base : Nat} {v : Value} {d : DataW H} {ps : List MemPlace}
include X Z Y
theorem wk_of {n : Nat} {cs : List Value} {x : DataW H × List MemPlace} (h : DataW.trod enc P W 0 (fun _ => true) true n tW cs = some x) (hw : wok (x.1.weights P tW)) : ∃ w : Wk, cs = w.cells ∧ bigW W w := by
  obtain ⟨fs, hu, hL⟩ := Y.w
  obtain ⟨xs, m, hn, hx, hl, hlen, hf, hwe⟩ := fields_of hu hL h
  rw [hwe] at hw
  match xs, hlen with
  | [x0, x1], _ =>
  simp only [List.map_cons, List.map_nil, DataW.weightsEach, ei_] at hw
  have f0 := hf 0 _ rfl; have f1 := hf 1 _ rfl
  simp only [List.getElem?_cons_zero, List.getElem?_cons_succ, Y.cps, Z.ck] at f0 f1
  obtain ⟨l, ad, cap, e0, r0, b0, l0, m0⟩ := oF_ X f0 hw.1
  have z0 := le_ X.ps (e0 ▸ f0)
  obtain ⟨c, e1, hc⟩ := cl_of X Z f1 hw.2.1
  rw [Y.cw] at hl
  match cs, hl with
  | [c0, c1, c2], _ =>
  simp only [List.drop_succ_cons, List.drop_zero, List.take_succ_cons, List.take_zero, List.cons.injEq, and_true] at e0 e1
  refine ⟨⟨l, ad, cap, c⟩, ?_, r0, b0, l0, z0, m0, hc⟩
  rw [e0, e1]; rfl
theorem arg_wk (hval : Value.okWide P W .any base tW v) (h : DataW.Trod enc P W 0 (fun _ => true) true tW v d ps) (hw : wok (d.weights P tW)) : ∃ w : Wk, v = w.val ∧ bigW W w := by
  obtain ⟨fs, hu, _⟩ := Y.w
  unfold Value.okWide at hval
  rw [hu] at hval
  obtain ⟨cs, rfl, _⟩ := hval
  obtain ⟨n, hn⟩ := h
  obtain ⟨w, e, h1⟩ := wk_of X Z Y hn hw
  refine ⟨w, ?_, h1⟩
  simp only [Value.cells] at e
  rw [Wk.val, ← e]
end
section
variable {H : Type} {enc : TypeId × Value → H} {P : Program} {W : World} {tI tB tS tSs tC tCs tA tAs tP tPs tF tFs tK tU tW tH tHs tIs : TypeId} (X : Tys P tI tB tS tSs tC tCs tA tAs tP tPs) (Z : Tys2 P tI tS tSs tF tFs tK) (Y : Tys3 P tI tU tPs tK tW tH tHs tIs) {base : Nat} {v : Value} {d : DataW H} {ps : List MemPlace}
include X
theorem qq_ (hval : Value.okWide P W .any base tPs v) (h : DataW.Trod enc P W 0 (fun _ => true) true tPs v d ps) (hw : wok (d.weights P tPs)) :
    ∃ (l : List Pc) (ad : Option Addr) (cap : Nat), v = .slice ad l.length cap ∧ bq_ (vw W) ad (l.flatMap Pc.cells) ∧ (∀ y ∈ l, y.big) ∧ l.length ≤ cap ∧ cap ≤ 1099511627744 ∧ (ad = none → cap = 0) := by
  obtain ⟨a, len, cap, rfl⟩ := okWide_slice X.ps hval
  obtain ⟨n, hn⟩ := h
  obtain ⟨l, ad, cap', e, h1, h2, h3, h4⟩ := oF_ X hn hw
  have z := le_ X.ps (e ▸ hn)
  simp only [Value.cells, List.cons.injEq, and_true] at e
  exact ⟨l, ad, cap', e, h1, h2, h3, h4, z⟩
end
theorem tysY : Tys3 Tryz.prog 3 65 22 28 50 67 64 58 where
  u := Tryz.underlying65
  w := ⟨_, Tryz.underlying50, rfl⟩
  h := ⟨_, Tryz.underlying67, rfl⟩
  hs := Tryz.underlying64
  is := Tryz.underlying58
  cu := by kernel_rfl
  cps := by kernel_rfl
  cw := by kernel_rfl
  ch := by kernel_rfl
  bh := by kernel_rfl
  bi := by kernel_rfl
end Go.Proofs.YtpdbbglpbngeiaaGreatDoor
