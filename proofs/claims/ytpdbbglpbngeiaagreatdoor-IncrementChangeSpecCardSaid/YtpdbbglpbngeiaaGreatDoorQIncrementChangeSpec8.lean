/-
  Part of the proof of the law IncrementChangeSpec over this seat: the small logic, the data, the contracts of functions (no condition).
-/
import Derived.Test.YtpdbbglpbngeiaaGreatDoorQIncrementChangeSpec7
import Derived.Test.YtpdbbglpbngeiaaGreatDoorQIncrementChangeSpec4
import Derived.Test.YtpdbbglpbngeiaaGreatDoorQIncrementChangeSpec5
set_option linter.unusedVariables false
set_option linter.unusedSimpArgs false
set_option linter.unusedSectionVars false
namespace Go.Proofs.YtpdbbglpbngeiaaGreatDoor
open Go Go.Sx Go.Proofs
attribute [local irreducible] Code.wp wpList wpAnyH
open Go.Vs
structure Wk where
  ps : List Pc
  pad : Option Addr
  pcap : Nat
  cl : Cl
def Wk.cells (w : Wk) : List Value := .slice w.pad w.ps.length w.pcap :: w.cl.cells
theorem Wk.cells_len (w : Wk) : w.cells.length = 3 := rfl
def Wk.val (w : Wk) : Value := .agg w.cells.toArray
def Wk.no : Wk := Wk.mk [] none 0 Cl.no
structure Wk.ok (w : Wk) : Prop where
  al : w.ps.length ≤ w.pcap
  am : w.pcap ≤ maxLen
  az : w.pad = none → w.pcap = 0
  cl : w.cl.ok
theorem Wk.no_ok : Wk.no.ok := ⟨Nat.le_refl _, by simp [Wk.no], fun _ => rfl, Cl.no_ok⟩
def Wk.row (w : Wk) : List Fct := [az_ w.pad (List.flatMap Pc.cells w.ps), az_ w.cl.aad (List.flatMap aO_ w.cl.atoms), az_ w.cl.fad (List.flatMap Fc.cells w.cl.facts)]
def cY_ (p : List Pc) (bu : Int) (w : Wk) (e : Int) : Prop := ∃ c, dI_ p bu c e ∧ (e = 0 → w.ps = p ∧ w.cl = c ∧ w.ok) ∧ (e ≠ 0 → w = Wk.no)
theorem cY_.ok {p : List Pc} {bu : Int} {w : Wk} {e : Int} (h : cY_ p bu w e) : w.ok := by
  obtain ⟨c, _, h1, h2⟩ := h
  by_cases he : e = 0
  · exact (h1 he).2.2
  · rw [h2 he]; exact Wk.no_ok
theorem cY_.good {p : List Pc} {bu : Int} {w : Wk} (h : cY_ p bu w 0) : w.ps = p ∧ w.ok ∧ dI_ p bu w.cl 0 := by
  obtain ⟨c, h0, h1, _⟩ := h
  obtain ⟨q1, q2, q3⟩ := h1 rfl
  exact ⟨q1, q3, q2 ▸ h0⟩
theorem cY_.len {p : List Pc} {bu : Int} {w : Wk} {e : Int} (h : cY_ p bu w e) : w.ps.length ≤ p.length ∧ w.cl.atoms.length ≤ 3 * p.length + 2 ∧ w.cl.facts.length ≤ 65536 := by
  obtain ⟨c, h0, h1, h2⟩ := h
  by_cases he : e = 0
  · obtain ⟨q1, q2, _⟩ := h1 he
    have := h0.len
    rw [q1, q2]; exact ⟨Nat.le_refl _, this⟩
  · rw [h2 he]; simp [Wk.no, Cl.no]
theorem cY_.srt {p : List Pc} {bu : Int} {w : Wk} {e : Int} (h : cY_ p bu w e) : Srt w.cl.facts := by
  obtain ⟨c, h0, h1, h2⟩ := h
  by_cases he : e = 0
  · rw [(h1 he).2.1]; exact h0.srt
  · rw [h2 he]; exact List.Pairwise.nil
section
variable {P : Program} {N : Nat} {fr : Fr} {H : Hp}
theorem cs_ {fn : Func} {t s r b n : Nat} {ty T : TypeId} {us : List Value} {u u2 : Value} (i : Nat) (hr : fn.results = #[.cell t ty, .tmp s, .tmp r]) (ha : ∀ w, (isAgg ty).run P w = .ok true w) (hs : ∀ w, (sizeOf ty).run P w = .ok n w) (hn : us.length = n) (hx : Fr.get fr t = some (zp_ b 0)) (hu : Fr.get fr s = some u) (hu2 : Fr.get fr r = some u2)
    (hi : H[i]? = some (b, .cells us.toArray T (0, 0))) (a : Act) (v : Vw) (h1 : Fr.sat N fr a) (h2 : v.sat H) : (results fn a.tmps).run P v.w = .ok (.tuple #[.agg us.toArray, u, u2]) v.w := by
  have e := h1.val t _ hx
  have e2 := h1.val s _ hu
  have e3 := h1.val r _ hu2
  have hl := dn_ (t := ty) (w := v.w) (b := b) (off := 0) ha hs hn (fun j y hj => by rw [Nat.zero_add, fy_ h2 hi]; simpa using hj)
  simp [results, hr, e, e2, e3, asAddr, hl]
end
theorem db_ : kR_ Tryz.prog 50 [(0, 1), (1, 2)] [.slice none 0 0, .slice none 0 0, .slice none 0 0] := ⟨_, bA_, aA_, fun w => by simp [bE_, ab_]⟩
theorem jL_ (bu : Int) : Fn0 Tryz.prog 80 #[.int .i64 bu] (.bool (decide (0 ≤ bu ∧ bu ≤ 1073741824))) := by
  refine T_ Tryz.func80 rfl rfl Tryz.ntmps80 rfl fun v0 => ?_
  refine h_ (c_ (a_ (g_ rfl) rfl (e_ (b_ rfl (h_ (c_ (a_ (d_ rfl) rfl (x_ (cG_ rfl rfl) rfl fun r1 hr1 => ?_))))))))
  refine a_ (d_ rfl) rfl ?_
  cases r1
  · skip
    replace hr1 := of_decide_eq_false hr1
    refine r_ rfl rfl rfl rfl (r_ rfl rfl rfl rfl (a_ (C_ rfl rfl) rfl (a_ (g_ rfl) rfl (e_ (b_ rfl (F_ ?_))))))
    exact aw_ Tryz.results80 () (y_ rfl (by simp; omega)) I_ (fun _ _ _ => trivial)
  · skip
    replace hr1 := of_decide_eq_true hr1
    refine p_ rfl rfl (a_ (d_ rfl) rfl (p_ rfl rfl (x_ (cf_ rfl rfl) rfl fun r2 hr2 => ?_)))
    refine a_ (H_ rfl rfl) rfl (a_ (g_ rfl) rfl (e_ (b_ rfl (F_ ?_))))
    exact aw_ Tryz.results80 () (y_ rfl (by rw [← hr2]; simp; omega)) I_ (fun _ _ _ => trivial)
theorem pt_ (p : List Pc) (pad : Option Addr) (pcap : Nat) (hc : p.length ≤ pcap) (hl : p.length ≤ 100000000) : Tri Tryz.prog 78 #[.slice pad (List.length p) pcap] [] [az_ pad (List.flatMap Pc.cells p)] (fun y : {y : Option Addr × Nat // (p).length ≤ y.2 ∧ y.2 ≤ maxLen ∧ (y.1 = none → y.2 = 0)} => .slice y.1.1 (p).length y.1.2) (fun _ => []) (fun y => [az_ y.1.1 ((p).flatMap Pc.cells)]) := by
  refine T_ Tryz.func78 rfl rfl Tryz.ntmps78 rfl fun v0 => ?_
  refine h_ (c_ (a_ (g_ rfl) rfl (e_ (b_ rfl (h_ (h_ (c_ (a_ (d_ rfl) rfl (x_ (kX_ Tryz.underlying22 rfl rfl) rfl fun r1 hr1 => ?_)))))))))
  refine e_ (b_ rfl ?_)
  cases r1
  · skip
    replace hr1 := of_decide_eq_false hr1
    refine v_ rfl (z_ (b_ rfl (h_ (c_ (cF_ A_ K_ rfl fun b1 => ?_)))))
    refine aj_ i_ (a_ (d_ rfl) rfl (aI_ (news := List.flatMap Pc.cells p) ff_ (do_ b1 47 10) rfl rfl (fun q => absurd q (by assumption)) hc aD_ (by rw [bp_ Pc.cells 10 Pc.cells_len]) (fun v _ h => by exact h.1) (fun u hu => aK_ Pc.cells_one hu) (by simp only [maxLen]; ((try simp only [List.length_nil]); omega)) (by ((try simp only [List.length_nil]); omega)) rfl fun sv1 Hr1 hr1 => ?_))
    refine aj_ List.perm_append_comm ?_
    have hq1 : aQ_ 47 10 sv1 (List.length (([] : List Pc) ++ p)) (List.flatMap Pc.cells (([] : List Pc) ++ p)) Hr1 := by rw [List.length_append, List.flatMap_append]; exact hr1
    refine a_ (g_ rfl) rfl (e_ (b_ rfl (F_ (bk_ hq1 aD_ fun ad2 cp2 had2 hcad2 hmad2 hzad2 => ?_))))
    exact aw_ Tryz.results78 ⟨(ad2, cp2), hcad2, hmad2, hzad2⟩ (bU_ rfl had2) I_ (fun v _ h => ⟨h.1, trivial⟩)
  · skip
    replace hr1 := of_decide_eq_true hr1
    refine t_ rfl (h_ (c_ (a_ (g_ rfl) rfl (e_ (b_ rfl (F_ (oR_ (p := List.flatMap Pc.cells p = []) (fun v _ h => by have q := h.1; rw [show pad = none by assumption] at q; exact ll_ q) fun hz => ?_)))))))
    have hz2 : p = [] := List.eq_nil_of_length_eq_zero (by have := congrArg List.length hz; rw [bp_ Pc.cells 10 Pc.cells_len] at this; simp at this; omega)
    subst hz2
    exact aw_ Tryz.results78 ⟨(none, 0), by simp⟩ rfl I_ (fun _ _ _ => ⟨.inl rfl, trivial⟩)
theorem in_ (p : List Pc) (pad : Option Addr) (pcap : Nat) (bu : Int) (hsm : ∀ x ∈ p, x.sm) (hc : p.length ≤ pcap) (hp : p.length ≤ 100000000) : Tri Tryz.prog 34 #[.slice pad (List.length p) pcap, .int .i64 bu] [] [az_ pad (List.flatMap Pc.cells p), gP_] (fun y : {y : Wk × Int // cY_ p bu y.1 y.2} => .tuple #[y.1.1.val, .int .i64 y.1.2]) (fun _ => []) (fun y => y.1.1.row) := by
  refine T_ Tryz.func34 rfl rfl Tryz.ntmps34 rfl fun v0 => ?_
  refine h_ (c_ (ao_ bA_ rfl fun b1 => ?_))
  refine a_ (g_ rfl) rfl (e_ (b_ rfl (h_ (c_ (a_ (d_ rfl) rfl (a_ (d_ rfl) rfl (W_ (qI_ p pad pcap bu hsm (by omega)) rfl I_ (fun v _ h => by exact ⟨h.1, h.2.1, trivial⟩) rfl fun ⟨⟨c1, e1⟩, hA1⟩ => ?_)))))))
  dsimp only
  dsimp only at hA1
  refine a_ (d_ rfl) rfl (a_ (ae_ rfl rfl) rfl (a_ (ae_ rfl rfl) rfl (ao_ dQ_ rfl fun b2 => ?_)))
  refine Q_ 0 ab_ rfl rfl rfl rfl rfl rfl (a_ (g_ rfl) rfl (e_ (b_ rfl (h_ (h_ (c_ (a_ (d_ rfl) rfl (x_ (bN_ rfl rfl) rfl fun r1 hr1 => ?_))))))))
  refine e_ (b_ rfl ?_)
  cases r1
  · skip
    replace hr1 := bb_ hr1
    refine v_ rfl (z_ (b_ rfl (h_ ?_)))
    refine aR_ ((b2, .cells (Cl.cells c1).toArray 28 (0, 0)) :: []) (by kernel_rfl) ?_
    refine ah_ 4 [0, 2] (by kernel_rfl) (fun _ a b => ⟨Vw.sat.sub (a.perm i_), b⟩) (n_ rfl (d_ rfl) rfl (n_ rfl (Y_ 0 aZ_ ab_ rfl rfl rfl) rfl (ag_ (X_ 1 rfl (by kernel_rfl) (W_ (pt_ p pad pcap (by omega) (by omega)) rfl I_ (fun v _ h => by exact ⟨h.2.2.1, trivial⟩) rfl fun ⟨⟨cad, ccap⟩, hcl1, hcl2, hcl3⟩ => ?_)))))
    dsimp only
    dsimp only at hcl1 hcl2 hcl3
    refine e_ (w_ rfl (N_ (fun _ a b => ⟨Vw.sat.sub (a.perm i_), b.2⟩) (ah_ 2 [3] (by kernel_rfl) (fun _ a b => ⟨Vw.sat.sub (a.perm i_), b.2⟩) (n_ rfl (ap_ db_ rfl rfl) rfl (ag_ (X_ 4 rfl (by kernel_rfl) (Q_ 1 U_ rfl rfl rfl rfl rfl rfl (e_ (w_ rfl ?_)))))))))
    refine N_ (fun _ a b => ⟨Vw.sat.sub (a.perm i_), b.2⟩) (ah_ 0 [5] (by kernel_rfl) (fun _ a b => ⟨Vw.sat.sub (a.perm i_), b.2⟩) (n_ rfl (g_ rfl) rfl (ag_ (ac_ (by kernel_rfl) (b_ rfl (F_ ?_))))))
    exact cH_ ⟨((Wk.mk p cad ccap c1), 0), ⟨c1, (by assumption : e1 = 0) ▸ hA1, fun _ => ⟨rfl, rfl, ⟨hcl1, hcl2, hcl3, hA1.ok⟩⟩, fun q => absurd rfl q⟩⟩ (fun aa v h1 h2 => de_ (us := Wk.cells (Wk.mk p cad ccap c1)) 1 Tryz.results34 aF_ U_ rfl rfl rfl rfl aa v h1 h2) I_ (fun v _ h => by exact ⟨h.1, h.2.1, h.2.2.1, trivial⟩)
  · skip
    replace hr1 := ba_ hr1
    refine t_ rfl (h_ (c_ (a_ (ap_ db_ rfl rfl) rfl (a_ (d_ rfl) rfl (Q_ 1 U_ rfl rfl rfl rfl rfl rfl (a_ (g_ rfl) rfl (e_ (b_ rfl (F_ ?_)))))))))
    exact cH_ ⟨((Wk.mk [] none 0 (Cl.mk [] none 0 [] none 0)), e1), ⟨c1, hA1, fun q => absurd q (by assumption), fun _ => rfl⟩⟩ (fun aa v h1 h2 => de_ (us := Wk.cells (Wk.mk [] none 0 (Cl.mk [] none 0 [] none 0))) 1 Tryz.results34 aF_ U_ rfl rfl rfl rfl aa v h1 h2) I_ (fun v _ h => by exact ⟨.inl rfl, .inl rfl, .inl rfl, trivial⟩)
theorem iW_ {K : Type} [DecidableEq K] {l q : List K} {i : Nat} {x : K} (h : ∀ f, f ∈ q ↔ f ∈ l.take i) (hx : l[i]? = some x) : ∀ f, f ∈ (if x ∈ q then q else q ++ [x]) ↔ f ∈ l.take (i + 1) := fun f => by
  rw [List.take_add_one, hx, Option.toList_some, List.mem_append, List.mem_singleton, ← h]
  split
  · rename_i hm
    exact ⟨.inl, fun q => q.elim id fun e => e ▸ hm⟩
  · rw [List.mem_append, List.mem_singleton]
def bD_ (l k : List Fc) : List Fc := l.filter fun f => !decide (f ∈ k)
theorem eU_ {l k : List Fc} {i : Nat} {x : Fc} (h : l[i]? = some x) : bD_ (l.take (i + 1)) k = bD_ (l.take i) k ++ (if x ∈ k then [] else [x]) := by
  unfold bD_
  rw [gM_ h]
  by_cases hx : x ∈ k <;> simp [hx]
theorem ee_ {l k q : List Fc} (h : ∀ f, f ∈ q ↔ f ∈ k) : bD_ l q = bD_ l k := by
  unfold bD_; congr 1; funext f; rw [Bool.eq_iff_iff]; simp [h]
theorem em_ (l k : List Fc) : (bD_ l k).length ≤ l.length := List.length_filter_le _ _
theorem jt_ (c : Cl) (hf : c.facts.length ≤ 1000000000) : Tri Tryz.prog 82 #[Cl.val c] [] [az_ (Cl.fad c) (List.flatMap Fc.cells (Cl.facts c))] (fun y : {y : Nat × Array MapEntry × Nat × List Fc // SetE Fc.val y.2.1 y.2.2.2 ∧ ∀ f, f ∈ y.2.2.2 ↔ f ∈ c.facts} => .map (some y.1.1)) (fun y => [(y.1.1, .map y.1.2.1 y.1.2.2.1)]) (fun _ => []) := by
  refine T_ Tryz.func82 rfl rfl Tryz.ntmps82 rfl fun v0 => ?_
  refine h_ (c_ (bs_ rfl rfl fun b1 => ?_))
  refine a_ (g_ rfl) rfl (e_ (b_ rfl (h_ (c_ (a_ (l_ aB_ rfl rfl rfl bl_) rfl (a_ (u_ 0 bt_ rfl rfl rfl) rfl (a_ (am_ G_ rfl) rfl (mm_ Tryz.runUnderlying122 rfl rfl fun b2 => ?_))))))))
  refine a_ (g_ rfl) rfl (e_ (b_ rfl (h_ (h_ (c_ (a_ (l_ aB_ rfl rfl rfl bl_) rfl (a_ (u_ 1 bt_ rfl rfl rfl) rfl (a_ (am_ G_ rfl) rfl (a_ (d_ rfl) rfl ?_)))))))))
  refine e_ (b_ rfl (R_ ?_))
  refine aL_ (ι := {y : Nat × Array MapEntry × Nat × List Fc // y.1 ≤ List.length (Cl.facts c) ∧ SetE Fc.val y.2.1 y.2.2.2 ∧ (∀ f, f ∈ y.2.2.2 ↔ f ∈ List.take y.1 (Cl.facts c))}) (fun y => [(1, zp_ b1 0), (2, .map (some b2)), (10, .slice (Cl.fad c) (List.length (Cl.facts c)) (Cl.fcap c)), (11, .int .i64 (List.length (Cl.facts c) : Int)), (12, .int .i64 (y.1.1 : Int))]) (fun y => ((b2, .map y.1.2.1 y.1.2.2.1) :: ((b1, .cells (Cl.cells c).toArray 28 (0, 0)) :: []))) (fun y => [az_ (Cl.fad c) (List.flatMap Fc.cells (Cl.facts c))]) (fun y => List.length (Cl.facts c) - y.1.1) ⟨((0 : Nat), #[], 0, ([] : List Fc)), by simp, SetE.nil, by simp⟩ ⟨rfl, rfl, rfl, rfl, rfl, trivial⟩ (m_ i_ i_) (fun _ _ h => h) ?_
  rintro ⟨⟨i, es, ce, q⟩, hi, hE, hq⟩
  dsimp only at hi hE hq ⊢
  refine h_ (c_ (x_ (av_ rfl rfl) rfl fun r1 hr1 => ?_))
  refine e_ (b_ rfl (h_ ?_))
  cases r1
  · skip
    replace hr1 := of_decide_eq_false hr1
    refine v_ rfl (au_ rfl (b_ rfl (h_ (c_ (a_ (d_ rfl) rfl (a_ (g_ rfl) rfl (e_ (b_ rfl (F_ ?_)))))))))
    rw [List.take_of_length_le (by omega)] at hq
    exact aw_ Tryz.results82 ⟨(b2, es, ce, q), hE, hq⟩ rfl i_ (fun _ _ _ => trivial)
  · skip
    replace hr1 := of_decide_eq_true hr1
    have hlx1 : i < List.length (Cl.facts c) := by omega
    obtain ⟨x1, hx1⟩ : ∃ e0, (Cl.facts c)[i]? = some e0 := ⟨_, List.getElem?_eq_getElem hlx1⟩
    have hmx1 : x1 ∈ (Cl.facts c) := List.mem_of_getElem? hx1
    refine t_ rfl (z_ (b_ rfl (h_ (R_ (h_ (c_ (a_ (aa_ G_ B_ rfl rfl (fun v _ h => ay_ (n := 6) Fc.cells_len (by decide) (by exact h.1) hx1) (by omega) (by first | omega | (simp; done))) rfl (a_ (aU_ (ad := (Cl.fad c)) (us := Fc.cells x1) ai_ B_ rfl (fun v _ h => by exact h.1) (Fc.cells_len _) (ad_ Fc.cells_len hx1)) rfl (ao_ ak_ rfl fun b3 => ?_)))))))))
    refine Q_ 0 B_ rfl rfl rfl rfl rfl rfl (e_ (b_ rfl (c_ (a_ (d_ rfl) rfl (a_ (Y_ 0 ai_ B_ rfl rfl rfl) rfl (fz_ (k := x1) 1 gr_ (.inr rfl) Tryz.runUnderlying122 rfl rfl rfl rfl hE fun ej1 cj1 hj1 => ?_))))))
    refine e_ (b_ rfl (c_ (a_ (M_ rfl rfl rfl (af_ (by omega) (by omega))) rfl (a_ (d_ rfl) rfl (e_ (w_ rfl ?_))))))
    exact Z_ ⟨(i + 1, ej1, cj1, (if x1 ∈ q then q else q ++ [x1])), hlx1, hj1, iW_ hq hx1⟩ (by dsimp only; omega) ⟨rfl, rfl, rfl, rfl, rfl, trivial⟩ (m_ (f_ i_) (f_ i_)) (fun _ _ h => h)
theorem fhas_c (mb : Nat) (es : Array MapEntry) (ce : Nat) (q : List Fc) (hE : SetE Fc.val es q) (f : Fc) : Tri Tryz.prog 84 #[.map (some mb), Fc.val f] [(mb, .map es ce)] [] (fun _ : Unit => .bool (decide (f ∈ q))) (fun _ => [(mb, .map es ce)]) (fun _ => []) := by
  refine T_ Tryz.func84 rfl rfl Tryz.ntmps84 rfl fun v0 => ?_
  refine h_ (c_ (bs_ rfl rfl fun b1 => ?_))
  refine a_ (g_ rfl) rfl (e_ (b_ rfl (h_ (c_ (a_ (d_ rfl) rfl (a_ (Y_ 0 ai_ B_ rfl rfl rfl) rfl (x_ (ej_ (k := f) gr_ Tryz.runUnderlying122 dK_ rfl rfl hE (fun v h _ => (h.own _ (List.mem_of_getElem? (i := 1) rfl)).1)) rfl fun r1 hr1 => ?_)))))))
  refine a_ (g_ rfl) rfl (e_ (b_ rfl (F_ ?_)))
  exact aw_ Tryz.results84 () (y_ rfl hr1.symm) (f_ i_) (fun _ _ _ => trivial)
theorem gv_ (l : List Fc) (lad : Option Addr) (lcap : Nat) (mb : Nat) (es : Array MapEntry) (ce : Nat) (q : List Fc) (hE : SetE Fc.val es q) (hl : l.length ≤ 1000000000) : Tri Tryz.prog 83 #[.slice lad (List.length l) lcap, (.func (.func 84) #[.map (some mb)] #[])] [(mb, .map es ce)] [az_ lad (List.flatMap Fc.cells l)] (fun y : {y : Option Addr × Nat // ((bD_ l q)).length ≤ y.2 ∧ y.2 ≤ maxLen ∧ (y.1 = none → y.2 = 0)} => .slice y.1.1 ((bD_ l q)).length y.1.2) (fun _ => [(mb, .map es ce)]) (fun y => [az_ y.1.1 (((bD_ l q)).flatMap Fc.cells)]) := by
 refine T_ Tryz.func83 rfl rfl Tryz.ntmps83 rfl fun v0 => ?_
 refine h_ (c_ (a_ (g_ rfl) rfl (e_ (b_ rfl (jV_ (h_ (jW_ (b_ rfl (h_ ?_)))))))))
 refine h_ (c_ (a_ (d_ rfl) rfl (a_ (am_ G_ rfl) rfl (a_ (d_ rfl) rfl (e_ (b_ rfl (R_ ?_)))))))
 refine aL_ (ι := {y : Nat × Value × Hp // y.1 ≤ List.length l ∧ aQ_ 41 6 y.2.1 (List.length (bD_ (List.take y.1 l) q)) (List.flatMap Fc.cells (bD_ (List.take y.1 l) q)) y.2.2}) (fun y => [(0, .slice lad (List.length l) lcap), (1, (.func (.func 84) #[.map (some mb)] #[])), (4, y.1.2.1), (7, .slice lad (List.length l) lcap), (8, .int .i64 (List.length l : Int)), (9, .int .i64 (y.1.1 : Int))]) (fun y => ((mb, .map es ce) :: y.1.2.2)) (fun y => [az_ lad (List.flatMap Fc.cells l)]) (fun y => List.length l - y.1.1) ⟨((0 : Nat), (.slice none 0 0), []), by simp, (aQ_.nil _ _)⟩ ⟨rfl, rfl, rfl, rfl, rfl, rfl, trivial⟩ i_ (fun _ _ h => h) ?_
 rintro ⟨⟨i, sv_Rfc, H_Rfc⟩, hi, hr_Rfc⟩
 dsimp only at hi hr_Rfc ⊢
 have hel := em_ (List.take i l) q
 rw [List.length_take] at hel
 refine h_ (c_ (x_ (av_ rfl rfl) rfl fun r1 hr1 => ?_))
 refine e_ (b_ rfl (h_ ?_))
 cases r1
 ·
  replace hr1 := of_decide_eq_false hr1
  refine v_ rfl (au_ rfl (b_ rfl (h_ (c_ (a_ (d_ rfl) rfl (a_ (g_ rfl) rfl (e_ (b_ rfl (F_ ?_)))))))))
  have e9 : (bD_ (List.take i l) q) = bD_ l q := by rw [List.take_of_length_le (by omega)]
  have hw1 : aQ_ 41 6 sv_Rfc (List.length (bD_ l q)) (List.flatMap Fc.cells (bD_ l q)) H_Rfc := by have q9 := hr_Rfc; rw [e9] at q9; exact q9
  refine bk_ hw1 S_ fun ad2 cp2 had2 hcad2 hmad2 hzad2 => ?_
  exact aw_ Tryz.results83 ⟨(ad2, cp2), hcad2, hmad2, hzad2⟩ (bU_ rfl had2) i_ (fun v _ h => ⟨h.1, trivial⟩)
 ·
  replace hr1 := of_decide_eq_true hr1
  have hlx1 : i < List.length l := by omega
  obtain ⟨x1, hx1⟩ : ∃ e0, l[i]? = some e0 := ⟨_, List.getElem?_eq_getElem hlx1⟩
  have hmx1 : x1 ∈ l := List.mem_of_getElem? hx1
  refine t_ rfl (z_ (b_ rfl (h_ (R_ (h_ (c_ (a_ (aa_ G_ B_ rfl rfl (fun v _ h => ay_ (n := 6) Fc.cells_len (by decide) (by exact h.1) hx1) (by omega) (by first | omega | (simp; done))) rfl (a_ (aU_ (ad := lad) (us := Fc.cells x1) ai_ B_ rfl (fun v _ h => by exact h.1) (Fc.cells_len _) (ad_ Fc.cells_len hx1)) rfl (ao_ ak_ rfl fun b1 => ?_)))))))))
  refine Q_ 0 B_ rfl rfl rfl rfl rfl rfl (e_ (b_ rfl (h_ (h_ (c_ (a_ (d_ rfl) rfl (a_ (Y_ 0 ai_ B_ rfl rfl rfl) rfl (cv_ (first := [.map (some mb)]) (cap := []) (fhas_c mb es ce q hE x1) rfl rfl (f_ i_) (fun _ _ _ => by exact trivial) rfl fun r2 hr2 => ?_))))))))
  refine e_ (b_ rfl ?_)
  cases r2
  ·
   replace hr2 := dF hr2
   refine v_ rfl (z_ (b_ rfl (c_ (a_ (d_ rfl) rfl (a_ (Y_ 1 ai_ B_ rfl rfl rfl) rfl (aJ_ G_ B_ ak_ rfl rfl rfl rfl rfl rfl fun b2 => ?_))))))
   refine bi_ (news := List.flatMap Fc.cells [x1]) ca_ hr_Rfc rfl rfl (f_ (f_ S_)) rfl (cy_ 0 rfl) (fun u hu => aK_ Fc.cells_one hu) (by simp only [maxLen]; ((try simp only [List.length_append, List.length_cons, List.length_nil]); omega)) (by ((try simp only [List.length_append, List.length_cons, List.length_nil]); omega)) rfl fun sv2 Hr2 hr2 => ?_
   refine aj_ List.perm_append_comm ?_
   have hq2 : aQ_ 41 6 sv2 (List.length ((bD_ (List.take i l) q) ++ [x1])) (List.flatMap Fc.cells ((bD_ (List.take i l) q) ++ [x1])) Hr2 := by rw [List.length_append, List.flatMap_append]; exact hr2
   refine a_ (g_ rfl) rfl (e_ (b_ rfl (c_ (a_ (M_ rfl rfl rfl (af_ (by omega) (by omega))) rfl (a_ (d_ rfl) rfl (e_ (w_ rfl ?_)))))))
   exact Z_ ⟨(i + 1, sv2, Hr2), hlx1, (by rw [eU_ hx1, if_neg (by assumption)]; exact hq2)⟩ (by dsimp only; omega) ⟨rfl, rfl, rfl, rfl, rfl, rfl, trivial⟩ (m_ (f_ i_) (f_ S_)) (fun _ _ h => h)
  ·
   replace hr2 := dT hr2
   refine t_ rfl (au_ rfl (b_ rfl (c_ (a_ (M_ rfl rfl rfl (af_ (by omega) (by omega))) rfl (a_ (d_ rfl) rfl (e_ (w_ rfl ?_)))))))
   exact Z_ ⟨(i + 1, sv_Rfc, H_Rfc), hlx1, (by rw [eU_ hx1, if_pos (by assumption), List.append_nil]; exact hr_Rfc)⟩ (by dsimp only; omega) ⟨rfl, rfl, rfl, rfl, rfl, rfl, trivial⟩ (m_ i_ S_) (fun _ _ h => h)
end Go.Proofs.YtpdbbglpbngeiaaGreatDoor
namespace Go.Proofs.YtpdbbglpbngeiaaGreatDoor
open Go Go.Sx Go.Proofs
attribute [local irreducible] Code.wp wpList wpAnyH
open Go.Vs
structure PL where
  l : List Pc
  ad : Option Addr
  cap : Nat
def PL.cells (x : PL) : List Value := [.slice x.ad x.l.length x.cap]
theorem PL.cells_len (x : PL) : x.cells.length = 1 := rfl
structure PL.ok (x : PL) : Prop where
  le : x.l.length ≤ x.cap
  nz : x.ad = none → x.cap = 0
  sh : x.l.length ≤ 100000
def plF (xs : List PL) : Fct where
  p v := ∀ x ∈ xs, bv_ v x.ad (List.flatMap Pc.cells x.l)
  mono := fun v v' h hp x hx => (az_ x.ad (List.flatMap Pc.cells x.l)).mono v v' h (hp x hx)
def dM_ (xs : List PL) : List Pc := List.flatMap PL.l xs
theorem iN_ {xs : List PL} {i : Nat} {x : PL} (h : xs[i]? = some x) : dM_ (xs.take (i + 1)) = dM_ (xs.take i) ++ x.l := br_ h
theorem kb_ {xs : List PL} (h : ∀ x ∈ xs, x.ok) (i : Nat) : (dM_ (xs.take i)).length ≤ min i xs.length * 100000 := by
  have := dG_ (g := PL.l) (n := 100000) (xs.take i) fun x hx => (h x (List.mem_of_mem_take hx)).sh
  rwa [List.length_take] at this
theorem eqS_c (l m : List Str) (ad ae : Option Addr) (cap cpe : Nat) (hl : l.length ≤ 1000000000000) (hm : m.length ≤ 1000000000000) : Tri Tryz.prog 128 #[.slice ad (List.length l) cap, .slice ae (List.length m) cpe] [] [az_ ad (List.flatMap aO_ l), az_ ae (List.flatMap aO_ m)] (fun _ : Unit => .bool (decide (l = m))) (fun _ => []) (fun _ => []) := by
 refine T_ Tryz.func128 rfl rfl Tryz.ntmps128 rfl fun v0 => ?_
 refine h_ (c_ (a_ (g_ rfl) rfl (e_ (b_ rfl (h_ (h_ (c_ (a_ (d_ rfl) rfl (a_ (am_ D_ rfl) rfl ?_)))))))))
 refine a_ (d_ rfl) rfl (a_ (am_ D_ rfl) rfl (x_ (bN_ rfl rfl) rfl fun r1 hr1 => ?_))
 refine e_ (b_ rfl ?_)
 cases r1
 ·
  replace hr1 := bb_ hr1
  refine v_ rfl (z_ (b_ rfl (h_ (h_ (c_ (a_ (d_ rfl) rfl (a_ (am_ D_ rfl) rfl (a_ (d_ rfl) rfl (e_ ?_)))))))))
  refine b_ rfl (R_ ?_)
  have hlm : List.length l = List.length m := by omega
  refine aL_ (ι := {y : Nat // y ≤ List.length l ∧ List.take y l = List.take y m}) (fun y => [(0, .slice ad (List.length l) cap), (1, .slice ae (List.length m) cpe), (12, .int .i64 (List.length l : Int)), (13, .int .i64 (y.1 : Int))]) (fun y => ([])) (fun y => [az_ ad (List.flatMap aO_ l), az_ ae (List.flatMap aO_ m)]) (fun y => List.length l - y.1) ⟨(0 : Nat), by simp, by simp⟩ ⟨rfl, rfl, rfl, rfl, trivial⟩ I_ (fun _ _ h => h) ?_
  rintro ⟨i, hi, he⟩
  dsimp only at hi he ⊢
  refine h_ (c_ (x_ (av_ rfl rfl) rfl fun r2 hr2 => ?_))
  refine e_ (b_ rfl (h_ ?_))
  cases r2
  ·
   replace hr2 := of_decide_eq_false hr2
   refine v_ rfl (au_ rfl (b_ rfl (h_ (c_ (a_ (g_ rfl) rfl (e_ (b_ rfl (F_ ?_))))))))
   exact aw_ Tryz.results128 () (y_ rfl (by symm; apply decide_eq_true; rwa [List.take_of_length_le (by omega), List.take_of_length_le (by omega)] at he)) I_ (fun _ _ _ => trivial)
  ·
   replace hr2 := of_decide_eq_true hr2
   have hlx1 : i < List.length l := by omega
   obtain ⟨x1, hx1⟩ : ∃ e0, l[i]? = some e0 := ⟨_, List.getElem?_eq_getElem hlx1⟩
   have hmx1 : x1 ∈ l := List.mem_of_getElem? hx1
   have hlx2 : i < List.length m := by omega
   obtain ⟨x2, hx2⟩ : ∃ e0, m[i]? = some e0 := ⟨_, List.getElem?_eq_getElem hlx2⟩
   have hmx2 : x2 ∈ m := List.mem_of_getElem? hx2
   refine t_ rfl (z_ (b_ rfl (h_ (R_ (h_ (c_ (a_ (d_ rfl) rfl (a_ (g_ rfl) rfl (e_ ?_)))))))))
   refine b_ rfl (h_ ?_)
   refine aS_ (by kernel_rfl) ?_
   refine ah_ 0 [0, 1, 2, 3, 4, 5, 6, 7, 8] (by kernel_rfl) (fun _ a b => ⟨bG_ a, b⟩) (n_ rfl (d_ rfl) rfl (n_ rfl (d_ rfl) rfl (n_ rfl (aa_ D_ j_ rfl rfl (fun v _ h => ay_ (n := 1) at_ (by decide) (by exact h.1) hx1) (by omega) (by first | omega | (simp; done))) rfl (n_ rfl (aN_ (ad := ad) q_ rfl (fun v _ h => by exact h.1) (ad_ at_ hx1 0 _ rfl)) rfl (n_ rfl (d_ rfl) rfl (n_ rfl (d_ rfl) rfl (n_ rfl (aa_ D_ j_ rfl rfl (fun v _ h => ay_ (n := 1) at_ (by decide) (by exact h.2.1) hx2) (by omega) (by first | omega | (simp; done))) rfl (n_ rfl (aN_ (ad := ae) q_ rfl (fun v _ h => by exact h.2.1) (ad_ at_ hx2 0 _ rfl)) rfl ?_))))))))
   refine cl_ rfl (dL_ rfl rfl) rfl fun r3 hr3 => ?_
   refine ag_ (ac_ (by kernel_rfl) (b_ rfl ?_))
   cases r3
   ·
    replace hr3 := bb_ hr3
    refine v_ rfl (z_ (b_ rfl (c_ (a_ (M_ rfl rfl rfl (af_ (by omega) (by omega))) rfl (a_ (d_ rfl) rfl (e_ (w_ rfl ?_)))))))
    exact Z_ ⟨i + 1, hlx1, by rw [List.take_add_one, hx1, List.take_add_one, hx2, he]; simp_all⟩ (by dsimp only; omega) ⟨rfl, rfl, rfl, rfl, trivial⟩ I_ (fun _ _ h => h)
   ·
    replace hr3 := ba_ hr3
    refine t_ rfl (h_ (c_ (a_ (g_ rfl) rfl (e_ (b_ rfl (F_ ?_))))))
    exact aw_ Tryz.results128 () (y_ rfl (by symm; apply decide_eq_false; intro e; subst e; rw [hx1] at hx2; simp_all)) I_ (fun _ _ _ => trivial)
 ·
  replace hr1 := ba_ hr1
  refine t_ rfl (h_ (c_ (a_ (g_ rfl) rfl (e_ (b_ rfl (F_ ?_))))))
  exact aw_ Tryz.results128 () (y_ rfl (by symm; apply decide_eq_false; intro e; subst e; omega)) I_ (fun _ _ _ => trivial)
theorem eqF_c (l m : List Fc) (ad ae : Option Addr) (cap cpe : Nat) (hl : l.length ≤ 1000000000000) (hm : m.length ≤ 1000000000000) : Tri Tryz.prog 129 #[.slice ad (List.length l) cap, .slice ae (List.length m) cpe] [] [az_ ad (List.flatMap Fc.cells l), az_ ae (List.flatMap Fc.cells m)] (fun _ : Unit => .bool (decide (l = m))) (fun _ => []) (fun _ => []) := by
 refine T_ Tryz.func129 rfl rfl Tryz.ntmps129 rfl fun v0 => ?_
 refine h_ (c_ (a_ (g_ rfl) rfl (e_ (b_ rfl (h_ (h_ (c_ (a_ (d_ rfl) rfl (a_ (am_ G_ rfl) rfl ?_)))))))))
 refine a_ (d_ rfl) rfl (a_ (am_ G_ rfl) rfl (x_ (bN_ rfl rfl) rfl fun r1 hr1 => ?_))
 refine e_ (b_ rfl ?_)
 cases r1
 ·
  replace hr1 := bb_ hr1
  refine v_ rfl (z_ (b_ rfl (h_ (h_ (c_ (a_ (d_ rfl) rfl (a_ (am_ G_ rfl) rfl (a_ (d_ rfl) rfl (e_ ?_)))))))))
  refine b_ rfl (R_ ?_)
  have hlm : List.length l = List.length m := by omega
  refine aL_ (ι := {y : Nat // y ≤ List.length l ∧ List.take y l = List.take y m}) (fun y => [(0, .slice ad (List.length l) cap), (1, .slice ae (List.length m) cpe), (12, .int .i64 (List.length l : Int)), (13, .int .i64 (y.1 : Int))]) (fun y => ([])) (fun y => [az_ ad (List.flatMap Fc.cells l), az_ ae (List.flatMap Fc.cells m)]) (fun y => List.length l - y.1) ⟨(0 : Nat), by simp, by simp⟩ ⟨rfl, rfl, rfl, rfl, trivial⟩ I_ (fun _ _ h => h) ?_
  rintro ⟨i, hi, he⟩
  dsimp only at hi he ⊢
  refine h_ (c_ (x_ (av_ rfl rfl) rfl fun r2 hr2 => ?_))
  refine e_ (b_ rfl (h_ ?_))
  cases r2
  ·
   replace hr2 := of_decide_eq_false hr2
   refine v_ rfl (au_ rfl (b_ rfl (h_ (c_ (a_ (g_ rfl) rfl (e_ (b_ rfl (F_ ?_))))))))
   exact aw_ Tryz.results129 () (y_ rfl (by symm; apply decide_eq_true; rwa [List.take_of_length_le (by omega), List.take_of_length_le (by omega)] at he)) I_ (fun _ _ _ => trivial)
  ·
   replace hr2 := of_decide_eq_true hr2
   have hlx1 : i < List.length l := by omega
   obtain ⟨x1, hx1⟩ : ∃ e0, l[i]? = some e0 := ⟨_, List.getElem?_eq_getElem hlx1⟩
   have hmx1 : x1 ∈ l := List.mem_of_getElem? hx1
   have hlx2 : i < List.length m := by omega
   obtain ⟨x2, hx2⟩ : ∃ e0, m[i]? = some e0 := ⟨_, List.getElem?_eq_getElem hlx2⟩
   have hmx2 : x2 ∈ m := List.mem_of_getElem? hx2
   refine t_ rfl (z_ (b_ rfl (h_ (R_ (h_ (c_ (a_ (d_ rfl) rfl (a_ (g_ rfl) rfl (e_ ?_)))))))))
   refine b_ rfl (h_ ?_)
   refine aS_ (by kernel_rfl) ?_
   refine ah_ 0 [0, 1, 2, 3, 4, 5, 6, 7, 8] (by kernel_rfl) (fun _ a b => ⟨bG_ a, b⟩) (n_ rfl (d_ rfl) rfl (n_ rfl (d_ rfl) rfl (n_ rfl (aa_ G_ B_ rfl rfl (fun v _ h => ay_ (n := 6) Fc.cells_len (by decide) (by exact h.1) hx1) (by omega) (by first | omega | (simp; done))) rfl (n_ rfl (aU_ (ad := ad) (us := Fc.cells x1) ai_ B_ rfl (fun v _ h => by exact h.1) (Fc.cells_len _) (ad_ Fc.cells_len hx1)) rfl (n_ rfl (d_ rfl) rfl (n_ rfl (d_ rfl) rfl (n_ rfl (aa_ G_ B_ rfl rfl (fun v _ h => ay_ (n := 6) Fc.cells_len (by decide) (by exact h.2.1) hx2) (by omega) (by first | omega | (simp; done))) rfl (n_ rfl (aU_ (ad := ae) (us := Fc.cells x2) ai_ B_ rfl (fun v _ h => by exact h.2.1) (Fc.cells_len _) (ad_ Fc.cells_len hx2)) rfl ?_))))))))
   refine cl_ rfl (eW_ (p := x1) (q := x2) rfl rfl) rfl fun r3 hr3 => ?_
   refine ag_ (ac_ (by kernel_rfl) (b_ rfl ?_))
   cases r3
   ·
    replace hr3 := of_decide_eq_false hr3
    refine v_ rfl (z_ (b_ rfl (c_ (a_ (M_ rfl rfl rfl (af_ (by omega) (by omega))) rfl (a_ (d_ rfl) rfl (e_ (w_ rfl ?_)))))))
    exact Z_ ⟨i + 1, hlx1, by rw [List.take_add_one, hx1, List.take_add_one, hx2, he]; simp_all⟩ (by dsimp only; omega) ⟨rfl, rfl, rfl, rfl, trivial⟩ I_ (fun _ _ h => h)
   ·
    replace hr3 := of_decide_eq_true hr3
    refine t_ rfl (h_ (c_ (a_ (g_ rfl) rfl (e_ (b_ rfl (F_ ?_))))))
    exact aw_ Tryz.results129 () (y_ rfl (by symm; apply decide_eq_false; intro e; subst e; rw [hx1] at hx2; simp_all)) I_ (fun _ _ _ => trivial)
 ·
  replace hr1 := ba_ hr1
  refine t_ rfl (h_ (c_ (a_ (g_ rfl) rfl (e_ (b_ rfl (F_ ?_))))))
  exact aw_ Tryz.results129 () (y_ rfl (by symm; apply decide_eq_false; intro e; subst e; omega)) I_ (fun _ _ _ => trivial)
theorem ov_ (c d : Cl) (h1 : c.atoms.length ≤ 1000000000000) (h2 : c.facts.length ≤ 1000000000000) (h3 : d.atoms.length ≤ 1000000000000) (h4 : d.facts.length ≤ 1000000000000) : Tri Tryz.prog 79 #[Cl.val c, Cl.val d] [] [az_ (Cl.aad c) (List.flatMap aO_ (Cl.atoms c)), az_ (Cl.fad c) (List.flatMap Fc.cells (Cl.facts c)), az_ (Cl.aad d) (List.flatMap aO_ (Cl.atoms d)), az_ (Cl.fad d) (List.flatMap Fc.cells (Cl.facts d))] (fun _ : Unit => .bool (decide (c.atoms = d.atoms) && decide (c.facts = d.facts))) (fun _ => []) (fun _ => []) := by
  refine T_ Tryz.func79 rfl rfl Tryz.ntmps79 rfl fun v0 => ?_
  refine h_ (c_ (bs_ rfl rfl fun b1 => ?_))
  refine bs_ rfl rfl fun b2 => ?_
  refine a_ (g_ rfl) rfl (e_ (b_ rfl (h_ (c_ (a_ (l_ aB_ rfl rfl rfl da_) rfl (a_ (u_ 1 gu_ rfl rfl rfl) rfl (a_ (l_ aB_ rfl rfl rfl da_) rfl (a_ (u_ 0 gu_ rfl rfl rfl) rfl (as_ (eqS_c (Cl.atoms c) (Cl.atoms d) (Cl.aad c) (Cl.aad d) (Cl.acap c) (Cl.acap d) (by omega) (by omega)) rfl I_ (fun v _ h => by exact ⟨h.1, h.2.2.1, trivial⟩) rfl fun r1 hr1 => ?_)))))))))
  refine a_ (d_ rfl) rfl ?_
  cases r1
  · skip
    replace hr1 := of_decide_eq_false hr1
    refine r_ rfl rfl rfl rfl (r_ rfl rfl rfl rfl (r_ rfl rfl rfl rfl (r_ rfl rfl rfl rfl (r_ rfl rfl rfl rfl (a_ (C_ rfl rfl) rfl (a_ (g_ rfl) rfl (e_ (b_ rfl (F_ ?_)))))))))
    exact aw_ Tryz.results79 () (y_ rfl (by have p1 := eq_false hr1; simp only [p1, if_true, if_false, decide_true, decide_false, Bool.and_true, Bool.and_false, Bool.true_and, Bool.false_and, Bool.or_true, Bool.or_false, Bool.true_or, Bool.false_or, Bool.not_true, Bool.not_false, ne_eq, not_true_eq_false, not_false_eq_true, true_and, and_true, false_and, and_false, true_or, or_true, false_or, or_false, ite_true, ite_false, Bool.false_eq_true])) I_ (fun _ _ _ => trivial)
  · skip
    replace hr1 := of_decide_eq_true hr1
    refine p_ rfl rfl (a_ (l_ aB_ rfl rfl rfl bl_) rfl (p_ rfl rfl (a_ (u_ 1 bt_ rfl rfl rfl) rfl (p_ rfl rfl (a_ (l_ aB_ rfl rfl rfl bl_) rfl (p_ rfl rfl (a_ (u_ 0 bt_ rfl rfl rfl) rfl (p_ rfl rfl (as_ (eqF_c (Cl.facts c) (Cl.facts d) (Cl.fad c) (Cl.fad d) (Cl.fcap c) (Cl.fcap d) (by omega) (by omega)) rfl I_ (fun v _ h => by exact ⟨h.2.1, h.2.2.2.1, trivial⟩) rfl fun r2 hr2 => ?_)))))))))
    refine a_ (H_ rfl rfl) rfl (a_ (g_ rfl) rfl (e_ (b_ rfl (F_ ?_))))
    exact aw_ Tryz.results79 () (y_ rfl (by have p1 := eq_true hr1; rw [← hr2]; simp only [p1, if_true, if_false, decide_true, decide_false, Bool.and_true, Bool.and_false, Bool.true_and, Bool.false_and, Bool.or_true, Bool.or_false, Bool.true_or, Bool.false_or, Bool.not_true, Bool.not_false, ne_eq, not_true_eq_false, not_false_eq_true, true_and, and_true, false_and, and_false, true_or, or_true, false_or, or_false, ite_true, ite_false, Bool.false_eq_true])) I_ (fun _ _ _ => trivial)
def jA_ (w : Wk) (e : Int) : Prop := if bM_ w.ps ≠ 0 then e = bM_ w.ps else ∃ c e1, dI_ w.ps 1073741824 c e1 ∧ e = if e1 = 0 ∧ c.atoms = w.cl.atoms ∧ c.facts = w.cl.facts then 0 else 1
theorem jA_.uniq {w : Wk} {e f : Int} (h : jA_ w e) (k : jA_ w f) : e = f := by
  unfold jA_ at h k
  split at h
  · rename_i h1; rw [if_pos h1] at k; rw [h, k]
  · rename_i h1
    rw [if_neg h1] at k
    obtain ⟨c, e1, a1, b1⟩ := h
    obtain ⟨d, e2, a2, b2⟩ := k
    obtain ⟨q1, q2, q3⟩ := km_ a1 a2
    rw [b1, b2, q1, q2, q3]
theorem chkW_c (w : Wk) (hsm : ∀ x ∈ w.ps, x.sm) (hp : w.ps.length ≤ 100000000) (h3 : w.cl.atoms.length ≤ 1000000000000) (h4 : w.cl.facts.length ≤ 1000000000000) : Tri Tryz.prog 37 #[Wk.val w] [] [az_ (Wk.pad w) (List.flatMap Pc.cells (Wk.ps w)), az_ (Cl.aad (Wk.cl w)) (List.flatMap aO_ (Cl.atoms (Wk.cl w))), az_ (Cl.fad (Wk.cl w)) (List.flatMap Fc.cells (Cl.facts (Wk.cl w))), gP_] (fun e : {e : Int // jA_ w e} => .int .i64 e.1) (fun _ => []) (fun _ => []) := by
  refine T_ Tryz.func37 rfl rfl Tryz.ntmps37 rfl fun v0 => ?_
  refine h_ (c_ (bs_ rfl rfl fun b1 => ?_))
  refine a_ (g_ rfl) rfl (e_ (b_ rfl (h_ (h_ (c_ (a_ (l_ aA_ rfl rfl rfl bE_) rfl (a_ (u_ 0 cc_ rfl rfl rfl) rfl (W_ (kK_ (Wk.ps w) (Wk.pad w) (Wk.pcap w) (by omega) hsm) rfl I_ (fun v _ h => by exact ⟨h.1, h.2.2.2.1, trivial⟩) rfl fun _ => ?_))))))))
  refine a_ (g_ rfl) rfl (e_ (b_ rfl (h_ (c_ (a_ (d_ rfl) rfl (x_ (bN_ rfl rfl) rfl fun r1 hr1 => ?_))))))
  refine e_ (b_ rfl ?_)
  cases r1
  · skip
    replace hr1 := bb_ hr1
    have hckw := hr1
    refine v_ rfl (z_ (b_ rfl (h_ (c_ (a_ (l_ aA_ rfl rfl rfl bE_) rfl (a_ (u_ 0 cc_ rfl rfl rfl) rfl (W_ (qI_ (Wk.ps w) (Wk.pad w) (Wk.pcap w) 1073741824 hsm (by omega)) rfl I_ (fun v _ h => by exact ⟨h.1, h.2.2.2.1, trivial⟩) rfl fun ⟨⟨c1, e1⟩, hA1⟩ => ?_)))))))
    dsimp only
    dsimp only at hA1
    refine a_ (d_ rfl) rfl (a_ (ae_ rfl rfl) rfl (a_ (ae_ rfl rfl) rfl (ao_ dQ_ rfl fun b2 => ?_)))
    refine Q_ 0 ab_ rfl rfl rfl rfl rfl rfl (a_ (g_ rfl) rfl (e_ (b_ rfl (h_ (h_ (c_ (a_ (d_ rfl) rfl (x_ (bN_ rfl rfl) rfl fun r2 hr2 => ?_))))))))
    refine a_ (d_ rfl) rfl ?_
    cases r2
    · skip
      replace hr2 := bb_ hr2
      refine p_ rfl rfl (a_ (Y_ 0 aZ_ ab_ rfl rfl rfl) rfl (p_ rfl rfl (a_ (l_ aA_ rfl rfl rfl ab_) rfl (p_ rfl rfl (a_ (Y_ 1 aZ_ ab_ rfl rfl rfl) rfl (p_ rfl rfl (as_ (ov_ c1 (Wk.cl w) (by have := hA1.len; omega) (by have := hA1.len; omega) (by omega) (by omega)) rfl I_ (fun v _ h => by exact ⟨h.1, h.2.1, h.2.2.2.1, h.2.2.2.2.1, trivial⟩) rfl fun r3 hr3 => ?_)))))))
      refine p_ rfl rfl (a_ (ce_ rfl) rfl (a_ (C_ rfl rfl) rfl (e_ (b_ rfl ?_))))
      cases r3
      · skip
        simp at hr3
        refine t_ rfl (h_ (c_ (a_ (g_ rfl) rfl (e_ (b_ rfl (F_ ?_))))))
        exact aw_ Tryz.results37 ⟨1, by unfold jA_; rw [if_neg (fun q => q hckw)]; exact ⟨c1, e1, hA1, by rw [if_neg (fun q => by first | exact absurd q.1 (by assumption) | (have := q.2; simp_all))]⟩⟩ rfl I_ (fun _ _ _ => trivial)
      · skip
        simp at hr3
        refine v_ rfl (z_ (b_ rfl (h_ (c_ (a_ (g_ rfl) rfl (e_ (b_ rfl (F_ ?_))))))))
        exact aw_ Tryz.results37 ⟨0, by unfold jA_; rw [if_neg (fun q => q hckw)]; exact ⟨c1, e1, hA1, by rw [if_pos ⟨by assumption, by simpa using hr3⟩]⟩⟩ rfl I_ (fun _ _ _ => trivial)
    · skip
      replace hr2 := ba_ hr2
      refine r_ rfl rfl rfl rfl (r_ rfl rfl rfl rfl (r_ rfl rfl rfl rfl (r_ rfl rfl rfl rfl (r_ rfl rfl rfl rfl (a_ (H_ rfl rfl) rfl (e_ (b_ rfl (t_ rfl (h_ ?_)))))))))
      refine c_ (a_ (g_ rfl) rfl (e_ (b_ rfl (F_ ?_))))
      exact aw_ Tryz.results37 ⟨1, by unfold jA_; rw [if_neg (fun q => q hckw)]; exact ⟨c1, e1, hA1, by rw [if_neg (fun q => by first | exact absurd q.1 (by assumption) | (have := q.2; simp_all))]⟩⟩ rfl I_ (fun _ _ _ => trivial)
  · skip
    replace hr1 := ba_ hr1
    refine t_ rfl (h_ (c_ (a_ (d_ rfl) rfl (a_ (g_ rfl) rfl (e_ (b_ rfl (F_ ?_)))))))
    exact aw_ Tryz.results37 ⟨(bM_ (Wk.ps w)), by unfold jA_; rw [if_pos (by assumption)]⟩ rfl I_ (fun _ _ _ => trivial)
theorem qm_ (n : Nat) (hn : n ≤ 1000000000) : Tri Tryz.prog 130 #[.slice none 0 0, .int .i64 (n : Int)] [] [] (fun y : {y : Value × Hp // aQ_ 47 10 y.1 0 [] y.2} => y.1.1) (fun y => y.1.2) (fun _ => []) := by
  refine T_ Tryz.func130 rfl rfl Tryz.ntmps130 rfl fun v0 => ?_
  refine h_ (c_ (a_ (g_ rfl) rfl (e_ (b_ rfl (h_ (h_ (c_ (a_ (d_ rfl) rfl (x_ (av_ rfl rfl) rfl fun r1 hr1 => ?_)))))))))
  refine e_ (b_ rfl ?_)
  cases r1
  · skip
    replace hr1 := of_decide_eq_false hr1
    refine v_ rfl (z_ (b_ rfl (h_ (h_ (c_ (a_ (d_ rfl) rfl (a_ (d_ rfl) rfl (a_ (kZ_ A_ rfl) rfl (a_ (d_ rfl) rfl ?_)))))))))
    refine a_ (am_ A_ rfl) rfl (a_ (M_ rfl rfl rfl (af_ (by omega) (by omega))) rfl (a_ (bC_ (M_ rfl rfl rfl (af_ (by omega) (by omega))) (show Value.int .i64 ((n : Int) - (0 - 0)) = Value.int .i64 (n : Int) from congrArg _ (by omega))) rfl (a_ (g_ rfl) rfl (e_ (b_ rfl (h_ (c_ (a_ (d_ rfl) rfl (x_ (bR_ rfl rfl) rfl fun r2 hr2 => ?_)))))))))
    refine e_ (b_ rfl ?_)
    cases r2
    · skip
      replace hr2 := of_decide_eq_false hr2
      refine v_ rfl (z_ (b_ rfl (h_ (c_ (a_ (d_ rfl) rfl (a_ (g_ rfl) rfl (e_ (b_ rfl (F_ ?_)))))))))
      exact aw_ Tryz.results130 ⟨(.slice none 0 0, []), aQ_.nil _ _⟩ rfl I_ (fun _ _ _ => trivial)
    · skip
      replace hr2 := of_decide_eq_true hr2
      refine t_ rfl (c_ (a_ (d_ rfl) rfl (a_ (d_ rfl) rfl (a_ (kZ_ A_ rfl) rfl (a_ (bC_ (cj_ (i := 0) (j := 0) (kl := .i64) (kh := .i64) A_ K_ rfl rfl rfl (by omega) (by omega)) (show _ = Value.slice none 0 0 from rfl)) rfl (a_ (d_ rfl) rfl (lB_ (n := n) ff_ bS_ rfl rfl (by omega) (by omega) (by simp only [maxLen]; omega) rfl fun yz bz hz => ?_)))))))
      refine a_ (d_ rfl) rfl (a_ (am_ A_ rfl) rfl (a_ (bC_ (cj_ (i := 0) (j := 0) (kl := .i64) (kh := .i64) A_ K_ rfl rfl rfl (by omega) (by omega)) (show _ = Value.slice (some ⟨bz, 0, none⟩) 0 yz.1 by simp [li_])) rfl (a_ (g_ rfl) rfl (e_ (b_ rfl (h_ (c_ (a_ (d_ rfl) rfl (a_ (g_ rfl) rfl ?_)))))))))
      refine e_ (b_ rfl (F_ ?_))
      exact aw_ Tryz.results130 ⟨(.slice (some ⟨bz, 0, none⟩) 0 yz.1, [(bz, .cells yz.2 47 (0, 0))]), nq_ hz.2.1 hz.2.2⟩ rfl i_ (fun _ _ _ => trivial)
  · skip
    replace hr1 := of_decide_eq_true hr1
    exfalso; omega
theorem pq_ (xs : List PL) (xad : Option Addr) (xcap : Nat) (hok : ∀ x ∈ xs, x.ok) (hl : xs.length ≤ 100) : Tri Tryz.prog 81 #[.slice xad (List.length xs) xcap] [] [az_ xad (List.flatMap PL.cells xs), plF xs] (fun y : {y : Option Addr × Nat // ((dM_ xs)).length ≤ y.2 ∧ y.2 ≤ maxLen ∧ (y.1 = none → y.2 = 0)} => .slice y.1.1 ((dM_ xs)).length y.1.2) (fun _ => []) (fun y => [az_ y.1.1 (((dM_ xs)).flatMap Pc.cells)]) := by
 refine T_ Tryz.func81 rfl rfl Tryz.ntmps81 rfl fun v0 => ?_
 refine h_ (c_ (a_ (g_ rfl) rfl (e_ (b_ rfl (h_ (c_ (a_ (g_ rfl) rfl (e_ (b_ rfl ?_)))))))))
 refine h_ (h_ (c_ (a_ (d_ rfl) rfl (a_ (am_ dr_ rfl) rfl (a_ (d_ rfl) rfl (e_ (b_ rfl (R_ ?_))))))))
 refine aL_ (ι := {y : Nat × Nat // y.1 ≤ List.length xs ∧ y.2 ≤ y.1 * 100000}) (fun y => [(0, .slice xad (List.length xs) xcap), (3, .int .i64 (y.1.2 : Int)), (9, .slice xad (List.length xs) xcap), (10, .int .i64 (List.length xs : Int)), (11, .int .i64 (y.1.1 : Int))]) (fun y => ([])) (fun y => [az_ xad (List.flatMap PL.cells xs), plF xs]) (fun y => List.length xs - y.1.1) ⟨((0 : Nat), (0 : Nat)), by simp, by simp⟩ ⟨rfl, rfl, rfl, rfl, rfl, trivial⟩ I_ (fun _ _ h => h) ?_
 rintro ⟨⟨i, w⟩, hi, hw⟩
 dsimp only at hi hw ⊢
 refine h_ (c_ (x_ (av_ rfl rfl) rfl fun r1 hr1 => ?_))
 refine e_ (b_ rfl (h_ ?_))
 cases r1
 ·
  replace hr1 := of_decide_eq_false hr1
  refine v_ rfl (au_ rfl (b_ rfl (h_ (c_ (a_ (d_ rfl) rfl (W_ (qm_ w (by omega)) rfl I_ (fun _ _ _ => by exact trivial) rfl fun ⟨⟨svg9, Hg9⟩, hg9⟩ => ?_))))))
  dsimp only
  dsimp only at hg9
  refine aj_ fk_ ?_
  have hg8 : aQ_ 47 10 svg9 (List.length (dM_ (List.take 0 xs))) (List.flatMap Pc.cells (dM_ (List.take 0 xs))) Hg9 := by exact hg9
  refine a_ (g_ rfl) rfl (e_ (b_ rfl (h_ (h_ (c_ (a_ (d_ rfl) rfl (a_ (am_ dr_ rfl) rfl (a_ (d_ rfl) rfl (e_ ?_)))))))))
  refine b_ rfl (R_ ?_)
  refine aL_ (ι := {y : Nat × Value × Hp // y.1 ≤ List.length xs ∧ aQ_ 47 10 y.2.1 (List.length (dM_ (List.take y.1 xs))) (List.flatMap Pc.cells (dM_ (List.take y.1 xs))) y.2.2}) (fun y => [(0, .slice xad (List.length xs) xcap), (6, y.1.2.1), (25, .slice xad (List.length xs) xcap), (26, .int .i64 (List.length xs : Int)), (27, .int .i64 (y.1.1 : Int))]) (fun y => (y.1.2.2)) (fun y => [az_ xad (List.flatMap PL.cells xs), plF xs]) (fun y => List.length xs - y.1.1) ⟨((0 : Nat), svg9, Hg9), by simp, hg8⟩ ⟨rfl, rfl, rfl, rfl, rfl, trivial⟩ aD_ (fun _ _ h => h) ?_
  rintro ⟨⟨j, sv_Rp, H_Rp⟩, hj, hr_Rp⟩
  dsimp only at hj hr_Rp ⊢
  have hpl := kb_ hok j
  refine h_ (c_ (x_ (av_ rfl rfl) rfl fun r2 hr2 => ?_))
  refine e_ (b_ rfl (h_ ?_))
  cases r2
  ·
   replace hr2 := of_decide_eq_false hr2
   rw [List.take_of_length_le (by omega)] at hr_Rp
   refine v_ rfl (au_ rfl (b_ rfl (h_ (c_ (a_ (d_ rfl) rfl (a_ (g_ rfl) rfl (e_ (b_ rfl (F_ ?_)))))))))
   refine bk_ hr_Rp aD_ fun ad2 cp2 had2 hcad2 hmad2 hzad2 => ?_
   exact aw_ Tryz.results81 ⟨(ad2, cp2), hcad2, hmad2, hzad2⟩ (bU_ rfl had2) I_ (fun v _ h => ⟨h.1, trivial⟩)
  ·
   replace hr2 := of_decide_eq_true hr2
   have hlx2 : j < List.length xs := by omega
   obtain ⟨x2, hx2⟩ : ∃ e0, xs[j]? = some e0 := ⟨_, List.getElem?_eq_getElem hlx2⟩
   have hmx2 : x2 ∈ xs := List.mem_of_getElem? hx2
   have hsh1 := (hok x2 hmx2).sh
   refine t_ rfl (z_ (b_ rfl (h_ (R_ (h_ (c_ (a_ (aa_ dr_ bE_ rfl rfl (fun v _ h => ay_ (n := 1) PL.cells_len (by decide) (by exact h.1) hx2) (by omega) (by first | omega | (simp; done))) rfl (a_ (aN_ (ad := xad) cc_ rfl (fun v _ h => by exact h.1) (ad_ PL.cells_len hx2 0 _ rfl)) rfl (a_ (g_ rfl) rfl ?_)))))))))
   refine e_ (b_ rfl (c_ (a_ (d_ rfl) rfl (a_ (d_ rfl) rfl (aI_ (news := List.flatMap Pc.cells (PL.l x2)) ff_ hr_Rp rfl rfl (hok x2 hmx2).nz (hok x2 hmx2).le aD_ (by rw [bp_ Pc.cells 10 Pc.cells_len]) (fun v _ h => by exact (h.2.1 x2 hmx2)) (fun u hu => aK_ Pc.cells_one hu) (by simp only [maxLen]; (have := (hok x2 hmx2).sh; omega)) (by (have := (hok x2 hmx2).sh; omega)) rfl fun sv1 Hr1 hr1 => ?_)))))
   refine aj_ List.perm_append_comm ?_
   have hq1 : aQ_ 47 10 sv1 (List.length ((dM_ (List.take j xs)) ++ (PL.l x2))) (List.flatMap Pc.cells ((dM_ (List.take j xs)) ++ (PL.l x2))) Hr1 := by rw [List.length_append, List.flatMap_append]; exact hr1
   refine a_ (g_ rfl) rfl (e_ (b_ rfl (c_ (a_ (M_ rfl rfl rfl (af_ (by omega) (by omega))) rfl (a_ (d_ rfl) rfl (e_ (w_ rfl ?_)))))))
   exact Z_ ⟨(j + 1, sv1, Hr1), hlx2, (by rw [iN_ hx2]; exact hq1)⟩ (by dsimp only; omega) ⟨rfl, rfl, rfl, rfl, rfl, trivial⟩ aD_ (fun _ _ h => h)
 ·
  replace hr1 := of_decide_eq_true hr1
  have hlx1 : i < List.length xs := by omega
  obtain ⟨x1, hx1⟩ : ∃ e0, xs[i]? = some e0 := ⟨_, List.getElem?_eq_getElem hlx1⟩
  have hmx1 : x1 ∈ xs := List.mem_of_getElem? hx1
  have hsh1 := (hok x1 hmx1).sh
  refine t_ rfl (z_ (b_ rfl (h_ (R_ (h_ (c_ (a_ (aa_ dr_ bE_ rfl rfl (fun v _ h => ay_ (n := 1) PL.cells_len (by decide) (by exact h.1) hx1) (by omega) (by first | omega | (simp; done))) rfl (a_ (aN_ (ad := xad) cc_ rfl (fun v _ h => by exact h.1) (ad_ PL.cells_len hx1 0 _ rfl)) rfl (a_ (g_ rfl) rfl ?_)))))))))
  refine e_ (b_ rfl (h_ (c_ (a_ (d_ rfl) rfl (a_ (d_ rfl) rfl (a_ (am_ A_ rfl) rfl (a_ (M_ rfl rfl rfl (af_ (by omega) (by omega))) rfl (a_ (g_ rfl) rfl (e_ ?_)))))))))
  refine b_ rfl (h_ (c_ (a_ (d_ rfl) rfl (x_ (av_ rfl rfl) rfl fun r3 hr3 => ?_))))
  refine e_ (b_ rfl ?_)
  cases r3
  ·
   replace hr3 := of_decide_eq_false hr3
   refine v_ rfl (z_ (b_ rfl (c_ (a_ (M_ rfl rfl rfl (af_ (by omega) (by omega))) rfl (a_ (d_ rfl) rfl (e_ (w_ rfl ?_)))))))
   exact Z_ ⟨(i + 1, w + List.length (PL.l x1)), hlx1, by have := (hok x1 hmx1).sh; dsimp only; omega⟩ (by dsimp only; omega) ⟨rfl, (cm_ rfl (by push_cast; rfl)), rfl, rfl, rfl, trivial⟩ I_ (fun _ _ h => h)
  ·
   replace hr3 := of_decide_eq_true hr3
   exfalso; omega
end Go.Proofs.YtpdbbglpbngeiaaGreatDoor
namespace Go.Proofs.YtpdbbglpbngeiaaGreatDoor
open Go Go.Sx Go.Proofs
attribute [local irreducible] Code.wp wpList wpAnyH
open Go.Vs
theorem keyI : KeyT Tryz.prog 3 (fun n : Int => .int .i64 n) := pc_ bS_
def ex_ (w : Wk) (p : List Pc) (bu : Int) (x : Wk) (new : List Fc) (e : Int) : Prop :=
  if bM_ p ≠ 0 then x = Wk.no ∧ new = [] ∧ e = bM_ p
  else if ¬ (0 ≤ bu ∧ bu ≤ 1073741824) then x = Wk.no ∧ new = [] ∧ e = 1
  else if 16384 < w.ps.length + p.length then x = Wk.no ∧ new = [] ∧ e = 2
  else cY_ (w.ps ++ p) bu x e ∧ new = if e = 0 then bD_ x.cl.facts w.cl.facts else []
theorem ex_.good {w : Wk} {p : List Pc} {bu : Int} {x : Wk} {new : List Fc} (h : ex_ w p bu x new 0) : bM_ p = 0 ∧ (0 ≤ bu ∧ bu ≤ 1073741824) ∧ w.ps.length + p.length ≤ 16384 ∧ cY_ (w.ps ++ p) bu x 0 ∧ new = bD_ x.cl.facts w.cl.facts := by
  unfold ex_ at h
  split at h
  · rename_i h1; exact absurd h.2.2.symm h1
  · rename_i h1
    split at h
    · exact absurd h.2.2 (by decide)
    · rename_i h2
      split at h
      · exact absurd h.2.2 (by decide)
      · rename_i h3
        exact ⟨Decidable.not_not.1 h1, Decidable.not_not.1 h2, by omega, h.1, h.2⟩
theorem ex_.ok {w : Wk} {p : List Pc} {bu : Int} {x : Wk} {new : List Fc} {e : Int} (h : ex_ w p bu x new e) : x.ok ∧ x.ps.length ≤ w.ps.length + p.length ∧ x.cl.atoms.length ≤ 3 * (w.ps.length + p.length) + 2 ∧ x.cl.facts.length ≤ 65536 ∧ new.length ≤ 65536 := by
  have no : Wk.no.ok ∧ Wk.no.ps.length ≤ w.ps.length + p.length ∧ Wk.no.cl.atoms.length ≤ 3 * (w.ps.length + p.length) + 2 ∧ Wk.no.cl.facts.length ≤ 65536 ∧ ([] : List Fc).length ≤ 65536 := ⟨Wk.no_ok, by simp [Wk.no], by simp [Wk.no, Cl.no], by simp [Wk.no, Cl.no], by simp⟩
  unfold ex_ at h
  split at h
  · obtain ⟨rfl, rfl, _⟩ := h; exact no
  · split at h
    · obtain ⟨rfl, rfl, _⟩ := h; exact no
    · split at h
      · obtain ⟨rfl, rfl, _⟩ := h; exact no
      · obtain ⟨q1, q2, q3⟩ := h.1.len
        rw [List.length_append] at q1 q2
        refine ⟨h.1.ok, q1, q2, q3, ?_⟩
        rw [h.2]
        split
        · have := em_ x.cl.facts w.cl.facts; omega
        · simp
def jG_ (n : Nat) (l : List Int) : Prop := (∀ x ∈ l, 0 ≤ x ∧ x < n) ∧ l.Pairwise (· < ·)
instance (n : Nat) (l : List Int) : Decidable (jG_ n l) := by unfold jG_; exact inferInstance
def cp_ (l : List Int) : Nat → List Pc → List Pc
  | _, [] => []
  | i, x :: r => if (i : Int) ∈ l then cp_ l (i + 1) r else x :: cp_ l (i + 1) r
theorem hv_ (l : List Int) : ∀ (i : Nat) (r s : List Pc), cp_ l i (r ++ s) = cp_ l i r ++ cp_ l (i + r.length) s
  | i, [], s => by simp [cp_]
  | i, x :: r, s => by
    rw [List.cons_append, cp_, hv_ l (i + 1) r s, cp_, List.length_cons, show i + 1 + r.length = i + (r.length + 1) by omega]
    split <;> simp
theorem ga_ {l : List Int} {p : List Pc} {i : Nat} {x : Pc} (h : p[i]? = some x) : cp_ l 0 (p.take (i + 1)) = cp_ l 0 (p.take i) ++ (if (i : Int) ∈ l then [] else [x]) := by
  have hi := (List.getElem?_eq_some_iff.1 h).1
  rw [List.take_add_one, h, Option.toList_some, hv_, List.length_take, Nat.min_eq_left (by omega), Nat.zero_add]
  simp only [cp_]
theorem gI_ (l : List Int) : ∀ (i : Nat) (p : List Pc), ∀ x ∈ cp_ l i p, x ∈ p
  | _, [], x, h => by simp [cp_] at h
  | i, y :: r, x, h => by
    simp only [cp_] at h
    split at h
    · exact List.mem_cons_of_mem _ (gI_ l (i + 1) r x h)
    · rcases List.mem_cons.1 h with rfl | h
      · exact List.mem_cons_self
      · exact List.mem_cons_of_mem _ (gI_ l (i + 1) r x h)
theorem eY_ (l : List Int) : ∀ (i : Nat) (p : List Pc), (cp_ l i p).length ≤ p.length
  | _, [] => by simp [cp_]
  | i, y :: r => by
    have := eY_ l (i + 1) r
    simp only [cp_]
    split <;> simp only [List.length_cons] <;> omega
def eH_ (w : Wk) (l : List Int) (bu : Int) (x : Wk) (gone : List Fc) (e : Int) : Prop :=
  if ¬ (jG_ w.ps.length l ∧ 0 ≤ bu ∧ bu ≤ 1073741824) then x = Wk.no ∧ gone = [] ∧ e = 1
  else cY_ (cp_ l 0 w.ps) bu x e ∧ gone = if e = 0 then bD_ w.cl.facts x.cl.facts else []
theorem eH_.good {w : Wk} {l : List Int} {bu : Int} {x : Wk} {g : List Fc} (h : eH_ w l bu x g 0) : jG_ w.ps.length l ∧ (0 ≤ bu ∧ bu ≤ 1073741824) ∧ cY_ (cp_ l 0 w.ps) bu x 0 ∧ g = bD_ w.cl.facts x.cl.facts := by
  unfold eH_ at h
  split at h
  · exact absurd h.2.2 (by decide)
  · rename_i h1
    have h1 := Decidable.not_not.1 h1
    exact ⟨h1.1, h1.2, h.1, h.2⟩
theorem eH_.ok {w : Wk} {l : List Int} {bu : Int} {x : Wk} {g : List Fc} {e : Int} (h : eH_ w l bu x g e) : x.ok ∧ x.ps.length ≤ w.ps.length ∧ x.cl.atoms.length ≤ 3 * w.ps.length + 2 ∧ x.cl.facts.length ≤ 65536 ∧ g.length ≤ w.cl.facts.length := by
  unfold eH_ at h
  split at h
  · obtain ⟨rfl, rfl, _⟩ := h; exact ⟨Wk.no_ok, by simp [Wk.no], by simp [Wk.no, Cl.no], by simp [Wk.no, Cl.no], by simp⟩
  · obtain ⟨q1, q2, q3⟩ := h.1.len
    have := eY_ l 0 w.ps
    refine ⟨h.1.ok, by omega, by omega, q3, ?_⟩
    rw [h.2]
    split
    · exact em_ _ _
    · simp
theorem hn_ {p : List Pc} {bu : Int} {w : Wk} {e : Int} (h : cY_ p bu w e) (he : e ≠ 0) : cY_ p bu Wk.no e := by
  obtain ⟨c, h1, _, _⟩ := h
  exact ⟨c, h1, fun q => absurd q he, fun _ => rfl⟩
set_option maxHeartbeats 1000000 in
theorem qJ_ (w : Wk) (p : List Pc) (pad : Option Addr) (pcap : Nat) (bu : Int) (hsw : ∀ x ∈ w.ps, x.sm) (hw1 : w.ps.length ≤ w.pcap) (hw2 : w.pad = none → w.pcap = 0) (hw3 : w.ps.length ≤ 16384) (hw4 : w.cl.facts.length ≤ 100000000) (hsm : ∀ x ∈ p, x.sm) (hp1 : p.length ≤ pcap) (hp2 : pad = none → pcap = 0) (hp3 : p.length ≤ 100000) : Tri Tryz.prog 39 #[Wk.val w, .slice pad (List.length p) pcap, .int .i64 bu] [] [az_ (Wk.pad w) (List.flatMap Pc.cells (Wk.ps w)), az_ (Cl.aad (Wk.cl w)) (List.flatMap aO_ (Cl.atoms (Wk.cl w))), az_ (Cl.fad (Wk.cl w)) (List.flatMap Fc.cells (Cl.facts (Wk.cl w))), az_ pad (List.flatMap Pc.cells p), gP_] (fun y : {y : Wk × List Fc × Option Addr × Nat × Int // ex_ w p bu y.1 y.2.1 y.2.2.2.2 ∧ (y.2.1.length ≤ y.2.2.2.1 ∧ y.2.2.2.1 ≤ maxLen ∧ (y.2.2.1 = none → y.2.2.2.1 = 0))} => .tuple #[y.1.1.val, .slice y.1.2.2.1 y.1.2.1.length y.1.2.2.2.1, .int .i64 y.1.2.2.2.2]) (fun _ => []) (fun y => y.1.1.row ++ [az_ y.1.2.2.1 (y.1.2.1.flatMap Fc.cells)]) := by
 refine T_ Tryz.func39 rfl rfl Tryz.ntmps39 rfl fun v0 => ?_
 refine h_ (c_ (bs_ rfl rfl fun b1 => ?_))
 refine ao_ bA_ rfl fun b2 => ?_
 refine a_ (g_ rfl) rfl (a_ (g_ rfl) rfl (e_ (b_ rfl (h_ (h_ (c_ (a_ (d_ rfl) rfl (W_ (kK_ p pad pcap (by omega) hsm) rfl I_ (fun v _ h => by exact ⟨h.2.2.2.1, h.2.2.2.2.1, trivial⟩) rfl fun _ => ?_))))))))
 refine a_ (g_ rfl) rfl (e_ (b_ rfl (h_ (c_ (a_ (d_ rfl) rfl (x_ (bN_ rfl rfl) rfl fun r1 hr1 => ?_))))))
 refine e_ (b_ rfl ?_)
 cases r1
 ·
  replace hr1 := bb_ hr1
  have hchk := hr1
  refine v_ rfl (z_ (b_ rfl (h_ (h_ (c_ (a_ (d_ rfl) rfl (as_ (jL_ bu) rfl I_ (fun _ _ _ => by exact trivial) rfl fun r2 hr2 => ?_)))))))
  refine a_ (ce_ rfl) rfl (e_ (b_ rfl ?_))
  cases r2
  ·
   replace hr2 := of_decide_eq_false hr2
   refine t_ rfl (h_ (c_ (a_ (ap_ db_ rfl rfl) rfl (Q_ 0 U_ rfl rfl rfl rfl rfl rfl (a_ (g_ rfl) rfl (a_ (g_ rfl) rfl (e_ (b_ rfl (F_ ?_)))))))))
   exact cH_ ⟨((Wk.mk [] none 0 (Cl.mk [] none 0 [] none 0)), ([] : List Fc), none, 0, 1), by unfold ex_; rw [if_neg (fun q => q hchk), if_pos (by assumption)]; exact ⟨rfl, rfl, rfl⟩, ⟨Nat.le_refl _, by simp, fun _ => rfl⟩⟩ (fun aa v h1 h2 => cs_ (us := Wk.cells (Wk.mk [] none 0 (Cl.mk [] none 0 [] none 0))) 0 gm_ aF_ U_ rfl rfl rfl rfl rfl aa v h1 h2) I_ (fun v _ h => by exact ⟨.inl rfl, .inl rfl, .inl rfl, .inl rfl, trivial⟩)
  ·
   replace hr2 := of_decide_eq_true hr2
   have hbu := hr2
   refine v_ rfl (z_ (b_ rfl (h_ (h_ (c_ (a_ (l_ aA_ rfl rfl rfl bE_) rfl (a_ (u_ 1 cc_ rfl rfl rfl) rfl (a_ (am_ A_ rfl) rfl (a_ (d_ rfl) rfl ?_)))))))))
   refine a_ (am_ A_ rfl) rfl (a_ (M_ rfl rfl rfl (af_ (by omega) (by omega))) rfl (x_ (bR_ rfl rfl) rfl fun r3 hr3 => ?_))
   refine e_ (b_ rfl ?_)
   cases r3
   ·
    replace hr3 := of_decide_eq_false hr3
    refine v_ rfl (z_ (b_ rfl (h_ (c_ (a_ (l_ aA_ rfl rfl rfl bE_) rfl (a_ (u_ 1 cc_ rfl rfl rfl) rfl (a_ (d_ rfl) rfl (aJ_ dr_ bE_ cr_ rfl rfl rfl rfl rfl rfl fun b3 => ?_))))))))
    refine bz_ (List.flatMap PL.cells [(PL.mk (Wk.ps w) (Wk.pad w) (Wk.pcap w)), (PL.mk p pad pcap)]) i_ rfl ?_
    refine W_ (pq_ [(PL.mk (Wk.ps w) (Wk.pad w) (Wk.pcap w)), (PL.mk p pad pcap)] (some ⟨b3, 0, none⟩) 2 (fun y hy => by simp only [List.mem_cons, List.not_mem_nil, or_false] at hy; rcases hy with rfl | rfl; exact ⟨hw1, hw2, by dsimp only; omega⟩; exact ⟨hp1, hp2, by dsimp only; omega⟩) (by simp)) rfl I_ (fun v _ h => by refine ⟨h.1, fun y hy => ?_, trivial⟩; simp only [List.mem_cons, List.not_mem_nil, or_false] at hy; rcases hy with rfl | rfl; exact h.2.1; exact h.2.2.2.2.1) rfl fun ⟨⟨ccad, cccap⟩, hcc1, hcc2, hcc3⟩ => ?_
    dsimp only
    dsimp only at hcc1 hcc2 hcc3
    have eC : (dM_ [(PL.mk (Wk.ps w) (Wk.pad w) (Wk.pcap w)), (PL.mk p pad pcap)]) = w.ps ++ p := by simp [dM_]
    have hCl : List.length (dM_ [(PL.mk (Wk.ps w) (Wk.pad w) (Wk.pcap w)), (PL.mk p pad pcap)]) = w.ps.length + p.length := by rw [eC, List.length_append]
    refine a_ (d_ rfl) rfl (W_ (in_ (dM_ [(PL.mk (Wk.ps w) (Wk.pad w) (Wk.pcap w)), (PL.mk p pad pcap)]) ccad cccap bu (fun y hy => by rw [eC] at hy; rcases List.mem_append.1 hy with h | h; exact hsw y h; exact hsm y h) (by omega) (by omega)) rfl I_ (fun v _ h => by exact ⟨h.1, h.2.2.2.2.2.2.1, trivial⟩) rfl fun ⟨⟨x1, e1⟩, hS1⟩ => ?_)
    dsimp only
    dsimp only at hS1
    have hlx1 := hS1.len
    refine a_ (d_ rfl) rfl (a_ (ae_ rfl rfl) rfl (a_ (ae_ rfl rfl) rfl (Q_ 0 U_ rfl rfl rfl rfl rfl rfl (a_ (g_ rfl) rfl (e_ (b_ rfl (h_ (h_ (c_ ?_)))))))))
    refine a_ (d_ rfl) rfl (x_ (bN_ rfl rfl) rfl fun r4 hr4 => ?_)
    refine e_ (b_ rfl ?_)
    cases r4
    ·
     replace hr4 := bb_ hr4
     have he1 : e1 = 0 := hr4
     refine v_ rfl (z_ (b_ rfl (h_ (c_ (a_ (l_ aA_ rfl rfl rfl ab_) rfl (a_ (Y_ 1 aZ_ ab_ rfl rfl rfl) rfl (W_ (jt_ (Wk.cl w) (by omega)) rfl I_ (fun v _ h => by exact ⟨h.2.2.2.2.2.2.2.1, trivial⟩) rfl fun ⟨⟨mb, es, ce, q⟩, hE, hq⟩ => ?_)))))))
     dsimp only
     dsimp only at hE hq
     refine a_ (g_ rfl) rfl (e_ (b_ rfl (h_ ?_)))
     refine aR_ ((b1, .cells #[.slice (Wk.pad w) (List.length (Wk.ps w)) (Wk.pcap w), .slice (Cl.aad (Wk.cl w)) (List.length (Cl.atoms (Wk.cl w))) (Cl.acap (Wk.cl w)), .slice (Cl.fad (Wk.cl w)) (List.length (Cl.facts (Wk.cl w))) (Cl.fcap (Wk.cl w))] 50 (0, 0)) :: []) (by kernel_rfl) ?_
     refine ah_ 6 [1, 2, 4, 5] (by kernel_rfl) (fun _ a b => ⟨a.tail.tail, b⟩) (n_ rfl (l_ aA_ rfl rfl rfl ab_) rfl (n_ rfl (l_ aB_ rfl rfl rfl bl_) rfl (n_ rfl (d_ rfl) rfl (n_ rfl (cR_ rfl rfl) rfl (ag_ ?_)))))
     refine fr_ 0 3 rfl rfl (by kernel_rfl) ?_ ?_
     ·
      refine a_ (Y_ 1 aF_ U_ rfl rfl rfl) rfl (e_ (w_ rfl (N_ (fun _ a b => ⟨a.tail.tail, b⟩) (X_ 3 rfl (by kernel_rfl) (a_ (u_ 1 bt_ rfl rfl rfl) rfl (e_ (w_ rfl (N_ (fun _ a b => ⟨a.tail.tail, b⟩) (X_ 6 rfl (by kernel_rfl) ?_)))))))))
      refine W_ (gv_ (Cl.facts (Wk.cl x1)) (Cl.fad (Wk.cl x1)) (Cl.fcap (Wk.cl x1)) mb es ce q hE (by omega)) rfl i_ (fun v _ h => by exact ⟨h.2.2.1, trivial⟩) rfl fun ⟨⟨nad, ncap⟩, hn1, hn2, hn3⟩ => ?_
      dsimp only
      dsimp only at hn1 hn2 hn3
      refine e_ (w_ rfl (N_ (fun _ a b => ⟨a.tail.tail, b.2⟩) (X_ 7 rfl (by kernel_rfl) (Q_ 1 U_ rfl rfl rfl rfl rfl rfl (e_ (w_ rfl (N_ (fun _ a b => ⟨a.tail.tail, b.2⟩) (ah_ 0 [8, 9] (by kernel_rfl) (fun _ a b => ⟨a.tail.tail, b.2⟩) (n_ rfl (g_ rfl) rfl ?_)))))))))
      refine n_ rfl (g_ rfl) rfl (ag_ (ac_ (by kernel_rfl) (b_ rfl (F_ ?_))))
      exact cH_ ⟨(x1, (bD_ (Cl.facts (Wk.cl x1)) q), nad, ncap, 0), by unfold ex_; rw [if_neg (fun q => q hchk), if_neg (fun q => q hbu), if_neg (by omega)]; rw [if_pos rfl]; exact ⟨eC ▸ he1 ▸ hS1, ee_ hq⟩, ⟨hn1, hn2, hn3⟩⟩ (fun aa v h1 h2 => cs_ (us := Wk.cells x1) 1 gm_ aF_ U_ rfl rfl rfl rfl rfl aa v h1 h2) I_ (fun v _ h => by exact ⟨h.2.1, h.2.2.1, h.2.2.2.1, h.1, trivial⟩)
     ·
      refine a_ (u_ 1 bt_ rfl rfl rfl) rfl (e_ (w_ rfl (N_ (fun _ a b => ⟨a.tail.tail, b⟩) ?_)))
      refine fr_ 0 6 rfl rfl (by kernel_rfl) ?_ ?_
      ·
       refine a_ (Y_ 1 aF_ U_ rfl rfl rfl) rfl (e_ (w_ rfl (N_ (fun _ a b => ⟨a.tail.tail, b⟩) (X_ 6 rfl (by kernel_rfl) (W_ (gv_ (Cl.facts (Wk.cl x1)) (Cl.fad (Wk.cl x1)) (Cl.fcap (Wk.cl x1)) mb es ce q hE (by omega)) rfl i_ (fun v _ h => by exact ⟨h.2.2.1, trivial⟩) rfl fun ⟨⟨nad, ncap⟩, hn1, hn2, hn3⟩ => ?_)))))
       dsimp only
       dsimp only at hn1 hn2 hn3
       refine e_ (w_ rfl (N_ (fun _ a b => ⟨a.tail.tail, b.2⟩) (X_ 7 rfl (by kernel_rfl) (Q_ 1 U_ rfl rfl rfl rfl rfl rfl (e_ (w_ rfl (N_ (fun _ a b => ⟨a.tail.tail, b.2⟩) (ah_ 0 [8, 9] (by kernel_rfl) (fun _ a b => ⟨a.tail.tail, b.2⟩) (n_ rfl (g_ rfl) rfl ?_)))))))))
       refine n_ rfl (g_ rfl) rfl (ag_ (ac_ (by kernel_rfl) (b_ rfl (F_ ?_))))
       exact cH_ ⟨(x1, (bD_ (Cl.facts (Wk.cl x1)) q), nad, ncap, 0), by unfold ex_; rw [if_neg (fun q => q hchk), if_neg (fun q => q hbu), if_neg (by omega)]; rw [if_pos rfl]; exact ⟨eC ▸ he1 ▸ hS1, ee_ hq⟩, ⟨hn1, hn2, hn3⟩⟩ (fun aa v h1 h2 => cs_ (us := Wk.cells x1) 1 gm_ aF_ U_ rfl rfl rfl rfl rfl aa v h1 h2) I_ (fun v _ h => by exact ⟨h.2.1, h.2.2.1, h.2.2.2.1, h.1, trivial⟩)
      ·
       refine W_ (gv_ (Cl.facts (Wk.cl x1)) (Cl.fad (Wk.cl x1)) (Cl.fcap (Wk.cl x1)) mb es ce q hE (by omega)) rfl i_ (fun v _ h => by exact ⟨h.2.2.1, trivial⟩) rfl fun ⟨⟨nad, ncap⟩, hn1, hn2, hn3⟩ => ?_
       dsimp only
       dsimp only at hn1 hn2 hn3
       refine e_ (w_ rfl (N_ (fun _ a b => ⟨a.tail.tail, b.2⟩) (X_ 0 rfl (by kernel_rfl) (a_ (Y_ 1 aF_ U_ rfl rfl rfl) rfl (e_ (w_ rfl (N_ (fun _ a b => ⟨a.tail.tail, b.2⟩) (X_ 7 rfl (by kernel_rfl) (Q_ 1 U_ rfl rfl rfl rfl rfl rfl ?_)))))))))
       refine e_ (w_ rfl (N_ (fun _ a b => ⟨a.tail.tail, b.2⟩) (ah_ 0 [8, 9] (by kernel_rfl) (fun _ a b => ⟨a.tail.tail, b.2⟩) (n_ rfl (g_ rfl) rfl (n_ rfl (g_ rfl) rfl (ag_ (ac_ (by kernel_rfl) (b_ rfl (F_ ?_)))))))))
       exact cH_ ⟨(x1, (bD_ (Cl.facts (Wk.cl x1)) q), nad, ncap, 0), by unfold ex_; rw [if_neg (fun q => q hchk), if_neg (fun q => q hbu), if_neg (by omega)]; rw [if_pos rfl]; exact ⟨eC ▸ he1 ▸ hS1, ee_ hq⟩, ⟨hn1, hn2, hn3⟩⟩ (fun aa v h1 h2 => cs_ (us := Wk.cells x1) 1 gm_ aF_ U_ rfl rfl rfl rfl rfl aa v h1 h2) I_ (fun v _ h => by exact ⟨h.2.1, h.2.2.1, h.2.2.2.1, h.1, trivial⟩)
    ·
     replace hr4 := ba_ hr4
     refine t_ rfl (h_ (c_ (a_ (ap_ db_ rfl rfl) rfl (a_ (d_ rfl) rfl (Q_ 0 U_ rfl rfl rfl rfl rfl rfl (a_ (g_ rfl) rfl (a_ (g_ rfl) rfl (e_ (b_ rfl ?_)))))))))
     refine F_ ?_
     exact cH_ ⟨((Wk.mk [] none 0 (Cl.mk [] none 0 [] none 0)), ([] : List Fc), none, 0, e1), by unfold ex_; rw [if_neg (fun q => q hchk), if_neg (fun q => q hbu), if_neg (by omega)]; rw [if_neg (by assumption)]; exact ⟨(hn_ (eC ▸ hS1) (by assumption)), rfl⟩, ⟨Nat.le_refl _, by simp, fun _ => rfl⟩⟩ (fun aa v h1 h2 => cs_ (us := Wk.cells (Wk.mk [] none 0 (Cl.mk [] none 0 [] none 0))) 0 gm_ aF_ U_ rfl rfl rfl rfl rfl aa v h1 h2) I_ (fun v _ h => by exact ⟨.inl rfl, .inl rfl, .inl rfl, .inl rfl, trivial⟩)
   ·
    replace hr3 := of_decide_eq_true hr3
    refine t_ rfl (h_ (c_ (a_ (ap_ db_ rfl rfl) rfl (Q_ 0 U_ rfl rfl rfl rfl rfl rfl (a_ (g_ rfl) rfl (a_ (g_ rfl) rfl (e_ (b_ rfl (F_ ?_)))))))))
    exact cH_ ⟨((Wk.mk [] none 0 (Cl.mk [] none 0 [] none 0)), ([] : List Fc), none, 0, 2), by unfold ex_; rw [if_neg (fun q => q hchk), if_neg (fun q => q hbu), if_pos (by omega)]; exact ⟨rfl, rfl, rfl⟩, ⟨Nat.le_refl _, by simp, fun _ => rfl⟩⟩ (fun aa v h1 h2 => cs_ (us := Wk.cells (Wk.mk [] none 0 (Cl.mk [] none 0 [] none 0))) 0 gm_ aF_ U_ rfl rfl rfl rfl rfl aa v h1 h2) I_ (fun v _ h => by exact ⟨.inl rfl, .inl rfl, .inl rfl, .inl rfl, trivial⟩)
 ·
  replace hr1 := ba_ hr1
  refine t_ rfl (h_ (c_ (a_ (ap_ db_ rfl rfl) rfl (a_ (d_ rfl) rfl (Q_ 0 U_ rfl rfl rfl rfl rfl rfl (a_ (g_ rfl) rfl (a_ (g_ rfl) rfl (e_ (b_ rfl ?_)))))))))
  refine F_ ?_
  exact cH_ ⟨((Wk.mk [] none 0 (Cl.mk [] none 0 [] none 0)), ([] : List Fc), none, 0, (bM_ p)), by unfold ex_; rw [if_pos (by assumption)]; exact ⟨rfl, rfl, rfl⟩, ⟨Nat.le_refl _, by simp, fun _ => rfl⟩⟩ (fun aa v h1 h2 => cs_ (us := Wk.cells (Wk.mk [] none 0 (Cl.mk [] none 0 [] none 0))) 0 gm_ aF_ U_ rfl rfl rfl rfl rfl aa v h1 h2) I_ (fun v _ h => by exact ⟨.inl rfl, .inl rfl, .inl rfl, .inl rfl, trivial⟩)
end Go.Proofs.YtpdbbglpbngeiaaGreatDoor
namespace Go.Proofs.YtpdbbglpbngeiaaGreatDoor
open Go Go.Sx Go.Proofs
attribute [local irreducible] Code.wp wpList wpAnyH
open Go.Vs
set_option maxHeartbeats 1000000 in
theorem iI_ (w : Wk) (wh : List Int) (had : Option Addr) (hcap : Nat) (bu : Int) (hsw : ∀ x ∈ w.ps, x.sm) (hw1 : w.ps.length ≤ w.pcap) (hw2 : w.pad = none → w.pcap = 0) (hw3 : w.ps.length ≤ 16384) (hw4 : w.cl.facts.length ≤ 100000000) (hwl : wh.length ≤ 100000000) : Tri Tryz.prog 41 #[Wk.val w, .slice had (List.length wh) hcap, .int .i64 bu] [] [az_ (Wk.pad w) (List.flatMap Pc.cells (Wk.ps w)), az_ (Cl.aad (Wk.cl w)) (List.flatMap aO_ (Cl.atoms (Wk.cl w))), az_ (Cl.fad (Wk.cl w)) (List.flatMap Fc.cells (Cl.facts (Wk.cl w))), az_ had (List.flatMap gZ_ wh), gP_] (fun y : {y : Wk × List Fc × Option Addr × Nat × Int // eH_ w wh bu y.1 y.2.1 y.2.2.2.2 ∧ (y.2.1.length ≤ y.2.2.2.1 ∧ y.2.2.2.1 ≤ maxLen ∧ (y.2.2.1 = none → y.2.2.2.1 = 0))} => .tuple #[y.1.1.val, .slice y.1.2.2.1 y.1.2.1.length y.1.2.2.2.1, .int .i64 y.1.2.2.2.2]) (fun _ => []) (fun y => y.1.1.row ++ [az_ y.1.2.2.1 (y.1.2.1.flatMap Fc.cells)]) := by
 refine T_ Tryz.func41 rfl rfl Tryz.ntmps41 rfl fun v0 => ?_
 refine h_ (c_ (bs_ rfl rfl fun b1 => ?_))
 refine ao_ bA_ rfl fun b2 => ?_
 refine a_ (g_ rfl) rfl (a_ (g_ rfl) rfl (e_ (b_ rfl (h_ (c_ (dE_ rfl fun b3 => ?_))))))
 refine a_ (g_ rfl) rfl (e_ (b_ rfl (h_ (h_ (c_ (a_ (d_ rfl) rfl (a_ (am_ bT_ rfl) rfl (a_ (d_ rfl) rfl (e_ ?_)))))))))
 refine b_ rfl (R_ ?_)
 refine aL_ (ι := {y : Nat × Array MapEntry × Nat × List Int // y.1 ≤ List.length wh ∧ SetE (fun n : Int => Value.int .i64 n) y.2.1 y.2.2.2 ∧ (∀ f, f ∈ y.2.2.2 ↔ f ∈ List.take y.1 wh) ∧ (∀ x ∈ List.take y.1 wh, 0 ≤ x ∧ x < List.length (Wk.ps w)) ∧ (List.take y.1 wh).Pairwise (fun x y : Int => x < y)}) (fun y => [(2, .int .i64 bu), (3, zp_ b1 0), (6, zp_ b2 0), (7, .slice none 0 0), (9, .map (some b3)), (1, .slice had (List.length wh) hcap), (17, .slice had (List.length wh) hcap), (18, .int .i64 (List.length wh : Int)), (19, .int .i64 (y.1.1 : Int))]) (fun y => ((b3, .map y.1.2.1 y.1.2.2.1) :: ((b2, .cells #[.slice none 0 0, .slice none 0 0, .slice none 0 0] 50 (0, 0)) :: ((b1, .cells #[.slice (Wk.pad w) (List.length (Wk.ps w)) (Wk.pcap w), .slice (Cl.aad (Wk.cl w)) (List.length (Cl.atoms (Wk.cl w))) (Cl.acap (Wk.cl w)), .slice (Cl.fad (Wk.cl w)) (List.length (Cl.facts (Wk.cl w))) (Cl.fcap (Wk.cl w))] 50 (0, 0)) :: [])))) (fun y => [az_ (Wk.pad w) (List.flatMap Pc.cells (Wk.ps w)), az_ (Cl.aad (Wk.cl w)) (List.flatMap aO_ (Cl.atoms (Wk.cl w))), az_ (Cl.fad (Wk.cl w)) (List.flatMap Fc.cells (Cl.facts (Wk.cl w))), az_ had (List.flatMap gZ_ wh), gP_]) (fun y => List.length wh - y.1.1) ⟨((0 : Nat), #[], 0, ([] : List Int)), by simp, SetE.nil, by simp, by simp, List.Pairwise.nil⟩ ⟨rfl, rfl, rfl, rfl, rfl, rfl, rfl, rfl, rfl, trivial⟩ (m_ i_ (m_ i_ i_)) (fun _ _ h => h) ?_
 rintro ⟨⟨i, es, ce, q⟩, hi, hE, hq, hb, hpw⟩
 dsimp only at hi hE hq hb hpw ⊢
 refine h_ (c_ (x_ (av_ rfl rfl) rfl fun r1 hr1 => ?_))
 refine e_ (b_ rfl (h_ ?_))
 cases r1
 ·
  replace hr1 := of_decide_eq_false hr1
  rw [List.take_of_length_le (by omega)] at hq hb hpw
  have hokx : jG_ (Wk.ps w).length wh := ⟨hb, hpw⟩
  refine v_ rfl (au_ rfl (b_ rfl (h_ (h_ (c_ (a_ (d_ rfl) rfl (as_ (jL_ bu) rfl I_ (fun _ _ _ => by exact trivial) rfl fun r2 hr2 => ?_)))))))
  refine a_ (ce_ rfl) rfl (e_ (b_ rfl ?_))
  cases r2
  ·
   replace hr2 := of_decide_eq_false hr2
   refine t_ rfl (h_ (c_ (a_ (ap_ db_ rfl rfl) rfl (Q_ 1 U_ rfl rfl rfl rfl rfl rfl (a_ (g_ rfl) rfl (a_ (g_ rfl) rfl (e_ (b_ rfl (F_ ?_)))))))))
   exact cH_ ⟨((Wk.mk [] none 0 (Cl.mk [] none 0 [] none 0)), ([] : List Fc), none, 0, 1), by unfold eH_; rw [if_pos (fun z => absurd z.2 (by assumption))]; exact ⟨rfl, rfl, rfl⟩, ⟨Nat.le_refl _, by simp, fun _ => rfl⟩⟩ (fun aa v h1 h2 => cs_ (us := Wk.cells (Wk.mk [] none 0 (Cl.mk [] none 0 [] none 0))) 1 gl_ aF_ U_ rfl rfl rfl rfl rfl aa v h1 h2) I_ (fun v _ h => by exact ⟨.inl rfl, .inl rfl, .inl rfl, .inl rfl, trivial⟩)
  ·
   replace hr2 := of_decide_eq_true hr2
   have hbu := hr2
   refine v_ rfl (z_ (b_ rfl (h_ (c_ (a_ (g_ rfl) rfl (e_ (b_ rfl (h_ (h_ ?_)))))))))
   refine c_ (a_ (l_ aA_ rfl rfl rfl bE_) rfl (a_ (u_ 2 cc_ rfl rfl rfl) rfl (a_ (am_ A_ rfl) rfl (a_ (d_ rfl) rfl (e_ (b_ rfl (R_ ?_)))))))
   refine aL_ (ι := {y : Nat × Value × Hp // y.1 ≤ List.length (Wk.ps w) ∧ aQ_ 47 10 y.2.1 (List.length (cp_ wh 0 (List.take y.1 (Wk.ps w)))) (List.flatMap Pc.cells (cp_ wh 0 (List.take y.1 (Wk.ps w)))) y.2.2}) (fun y => [(2, .int .i64 bu), (3, zp_ b1 0), (6, zp_ b2 0), (7, .slice none 0 0), (9, .map (some b3)), (12, y.1.2.1), (55, .slice (Wk.pad w) (List.length (Wk.ps w)) (Wk.pcap w)), (56, .int .i64 (List.length (Wk.ps w) : Int)), (57, .int .i64 (y.1.1 : Int))]) (fun y => ((b3, .map es ce) :: ((b2, .cells #[.slice none 0 0, .slice none 0 0, .slice none 0 0] 50 (0, 0)) :: ((b1, .cells #[.slice (Wk.pad w) (List.length (Wk.ps w)) (Wk.pcap w), .slice (Cl.aad (Wk.cl w)) (List.length (Cl.atoms (Wk.cl w))) (Cl.acap (Wk.cl w)), .slice (Cl.fad (Wk.cl w)) (List.length (Cl.facts (Wk.cl w))) (Cl.fcap (Wk.cl w))] 50 (0, 0)) :: y.1.2.2)))) (fun y => [az_ (Wk.pad w) (List.flatMap Pc.cells (Wk.ps w)), az_ (Cl.aad (Wk.cl w)) (List.flatMap aO_ (Cl.atoms (Wk.cl w))), az_ (Cl.fad (Wk.cl w)) (List.flatMap Fc.cells (Cl.facts (Wk.cl w))), az_ had (List.flatMap gZ_ wh), gP_]) (fun y => List.length (Wk.ps w) - y.1.1) ⟨((0 : Nat), (.slice none 0 0), []), by simp, (aQ_.nil _ _)⟩ ⟨rfl, rfl, rfl, rfl, rfl, rfl, rfl, rfl, rfl, trivial⟩ (m_ i_ (m_ i_ i_)) (fun _ _ h => h) ?_
   rintro ⟨⟨k, sv_Rpc, H_Rpc⟩, hk, hr_Rpc⟩
   dsimp only at hk hr_Rpc ⊢
   have hkl := eY_ wh 0 (List.take k (Wk.ps w))
   rw [List.length_take] at hkl
   refine h_ (c_ (x_ (av_ rfl rfl) rfl fun r3 hr3 => ?_))
   refine e_ (b_ rfl (h_ ?_))
   cases r3
   ·
    replace hr3 := of_decide_eq_false hr3
    rw [List.take_of_length_le (by omega)] at hr_Rpc
    have hkl2 := eY_ wh 0 (Wk.ps w)
    refine v_ rfl (au_ rfl (b_ rfl (h_ (c_ (a_ (d_ rfl) rfl (a_ (d_ rfl) rfl (bk_ hr_Rpc (f_ (f_ S_)) fun rad rcap hrad hcrad hmrad hzrad => ?_)))))))
    subst hrad
    refine W_ (in_ (cp_ wh 0 (Wk.ps w)) rad rcap bu (fun y hy => hsw y (gI_ _ _ _ y hy)) (by omega) (by omega)) rfl I_ (fun v _ h => by exact ⟨h.1, h.2.2.2.2.2.1, trivial⟩) rfl fun ⟨⟨x1w, e1⟩, hS1⟩ => ?_
    dsimp only
    dsimp only at hS1
    have hlx1w := hS1.len
    refine a_ (d_ rfl) rfl (a_ (ae_ rfl rfl) rfl (a_ (ae_ rfl rfl) rfl (Q_ 1 U_ rfl rfl rfl rfl rfl rfl (a_ (g_ rfl) rfl (e_ (b_ rfl (h_ (h_ (c_ ?_)))))))))
    refine a_ (d_ rfl) rfl (x_ (bN_ rfl rfl) rfl fun r4 hr4 => ?_)
    refine e_ (b_ rfl ?_)
    cases r4
    ·
     replace hr4 := bb_ hr4
     have he1 : e1 = 0 := hr4
     refine v_ rfl (z_ (b_ rfl (h_ (c_ (a_ (l_ aA_ rfl rfl rfl ab_) rfl (a_ (Y_ 1 aZ_ ab_ rfl rfl rfl) rfl (W_ (jt_ (Wk.cl x1w) (by omega)) rfl I_ (fun v _ h => by exact ⟨h.2.2.1, trivial⟩) rfl fun ⟨⟨mb9, es9, ce9, q9⟩, hE9, hq9⟩ => ?_)))))))
     dsimp only
     dsimp only at hE9 hq9
     refine a_ (g_ rfl) rfl (e_ (b_ rfl (h_ ?_)))
     refine aR_ ((b3, .map es ce) :: ((b1, .cells #[.slice (Wk.pad w) (List.length (Wk.ps w)) (Wk.pcap w), .slice (Cl.aad (Wk.cl w)) (List.length (Cl.atoms (Wk.cl w))) (Cl.acap (Wk.cl w)), .slice (Cl.fad (Wk.cl w)) (List.length (Cl.facts (Wk.cl w))) (Cl.fcap (Wk.cl w))] 50 (0, 0)) :: [])) (by kernel_rfl) ?_
     refine ah_ 5 [1, 2, 3, 4, 5] (by kernel_rfl) (fun _ a b => ⟨Vw.sat.sub (a.perm (m_ (f_ i_) (f_ (f_ i_)))), b⟩) (n_ rfl (l_ aA_ rfl rfl rfl ab_) rfl (n_ rfl (l_ aB_ rfl rfl rfl bl_) rfl (n_ rfl (u_ 1 bt_ rfl rfl rfl) rfl (n_ rfl (d_ rfl) rfl (n_ rfl (cR_ rfl rfl) rfl (ag_ ?_))))))
     refine fr_ 0 6 rfl rfl (by kernel_rfl) ?_ ?_
     ·
      refine a_ (Y_ 2 aF_ U_ rfl rfl rfl) rfl (e_ (w_ rfl (N_ (fun _ a b => ⟨Vw.sat.sub (a.perm (m_ (f_ i_) (f_ (f_ i_)))), b⟩) (X_ 6 rfl (by kernel_rfl) (W_ (gv_ (Cl.facts (Wk.cl w)) (Cl.fad (Wk.cl w)) (Cl.fcap (Wk.cl w)) mb9 es9 ce9 q9 hE9 (by omega)) rfl i_ (fun v _ h => by exact ⟨h.2.2.2.2.2.2.1, trivial⟩) rfl fun ⟨⟨nad, ncap⟩, hn1, hn2, hn3⟩ => ?_)))))
      dsimp only
      dsimp only at hn1 hn2 hn3
      refine e_ (w_ rfl (N_ (fun _ a b => ⟨Vw.sat.sub (a.perm (m_ (f_ i_) (f_ (f_ i_)))), b.2⟩) (X_ 7 rfl (by kernel_rfl) (Q_ 2 U_ rfl rfl rfl rfl rfl rfl (e_ (w_ rfl (N_ (fun _ a b => ⟨Vw.sat.sub (a.perm (m_ (f_ i_) (f_ (f_ i_)))), b.2⟩) (ah_ 0 [8, 9] (by kernel_rfl) (fun _ a b => ⟨Vw.sat.sub (a.perm (m_ (f_ i_) (f_ (f_ i_)))), b.2⟩) (n_ rfl (g_ rfl) rfl ?_)))))))))
      refine n_ rfl (g_ rfl) rfl (ag_ (ac_ (by kernel_rfl) (b_ rfl (F_ ?_))))
      exact cH_ ⟨(x1w, (bD_ (Cl.facts (Wk.cl w)) q9), nad, ncap, 0), by unfold eH_; rw [if_neg (fun z => z ⟨hokx, hbu⟩)]; rw [if_pos rfl]; exact ⟨he1 ▸ hS1, ee_ hq9⟩, ⟨hn1, hn2, hn3⟩⟩ (fun aa v h1 h2 => cs_ (us := Wk.cells x1w) 2 gl_ aF_ U_ rfl rfl rfl rfl rfl aa v h1 h2) I_ (fun v _ h => by exact ⟨h.2.1, h.2.2.1, h.2.2.2.1, h.1, trivial⟩)
     ·
      refine W_ (gv_ (Cl.facts (Wk.cl w)) (Cl.fad (Wk.cl w)) (Cl.fcap (Wk.cl w)) mb9 es9 ce9 q9 hE9 (by omega)) rfl i_ (fun v _ h => by exact ⟨h.2.2.2.2.2.2.1, trivial⟩) rfl fun ⟨⟨nad, ncap⟩, hn1, hn2, hn3⟩ => ?_
      dsimp only
      dsimp only at hn1 hn2 hn3
      refine e_ (w_ rfl (N_ (fun _ a b => ⟨Vw.sat.sub (a.perm (m_ (f_ i_) (f_ (f_ i_)))), b.2⟩) (X_ 0 rfl (by kernel_rfl) (a_ (Y_ 2 aF_ U_ rfl rfl rfl) rfl (e_ (w_ rfl (N_ (fun _ a b => ⟨Vw.sat.sub (a.perm (m_ (f_ i_) (f_ (f_ i_)))), b.2⟩) (X_ 7 rfl (by kernel_rfl) (Q_ 2 U_ rfl rfl rfl rfl rfl rfl ?_)))))))))
      refine e_ (w_ rfl (N_ (fun _ a b => ⟨Vw.sat.sub (a.perm (m_ (f_ i_) (f_ (f_ i_)))), b.2⟩) (ah_ 0 [8, 9] (by kernel_rfl) (fun _ a b => ⟨Vw.sat.sub (a.perm (m_ (f_ i_) (f_ (f_ i_)))), b.2⟩) (n_ rfl (g_ rfl) rfl (n_ rfl (g_ rfl) rfl (ag_ (ac_ (by kernel_rfl) (b_ rfl (F_ ?_)))))))))
      exact cH_ ⟨(x1w, (bD_ (Cl.facts (Wk.cl w)) q9), nad, ncap, 0), by unfold eH_; rw [if_neg (fun z => z ⟨hokx, hbu⟩)]; rw [if_pos rfl]; exact ⟨he1 ▸ hS1, ee_ hq9⟩, ⟨hn1, hn2, hn3⟩⟩ (fun aa v h1 h2 => cs_ (us := Wk.cells x1w) 2 gl_ aF_ U_ rfl rfl rfl rfl rfl aa v h1 h2) I_ (fun v _ h => by exact ⟨h.2.1, h.2.2.1, h.2.2.2.1, h.1, trivial⟩)
    ·
     replace hr4 := ba_ hr4
     refine t_ rfl (h_ (c_ (a_ (ap_ db_ rfl rfl) rfl (a_ (d_ rfl) rfl (Q_ 1 U_ rfl rfl rfl rfl rfl rfl (a_ (g_ rfl) rfl (a_ (g_ rfl) rfl (e_ (b_ rfl ?_)))))))))
     refine F_ ?_
     exact cH_ ⟨((Wk.mk [] none 0 (Cl.mk [] none 0 [] none 0)), ([] : List Fc), none, 0, e1), by unfold eH_; rw [if_neg (fun z => z ⟨hokx, hbu⟩)]; rw [if_neg (by assumption)]; exact ⟨hn_ hS1 (by assumption), rfl⟩, ⟨Nat.le_refl _, by simp, fun _ => rfl⟩⟩ (fun aa v h1 h2 => cs_ (us := Wk.cells (Wk.mk [] none 0 (Cl.mk [] none 0 [] none 0))) 1 gl_ aF_ U_ rfl rfl rfl rfl rfl aa v h1 h2) I_ (fun v _ h => by exact ⟨.inl rfl, .inl rfl, .inl rfl, .inl rfl, trivial⟩)
   ·
    replace hr3 := of_decide_eq_true hr3
    have hlx2 : k < List.length (Wk.ps w) := by omega
    obtain ⟨x2, hx2⟩ : ∃ e0, (Wk.ps w)[k]? = some e0 := ⟨_, List.getElem?_eq_getElem hlx2⟩
    have hmx2 : x2 ∈ (Wk.ps w) := List.mem_of_getElem? hx2
    refine t_ rfl (z_ (b_ rfl (h_ (R_ (h_ (c_ (a_ (d_ rfl) rfl (a_ (aa_ A_ K_ rfl rfl (fun v _ h => ay_ (n := 10) Pc.cells_len (by decide) (by exact h.1) hx2) (by omega) (by first | omega | (simp; done))) rfl (a_ (aU_ (ad := (Wk.pad w)) (us := Pc.cells x2) aG_ K_ rfl (fun v _ h => by exact h.1) (Pc.cells_len _) (ad_ Pc.cells_len hx2)) rfl ?_)))))))))
    refine ao_ aX_ rfl fun b4 => ?_
    refine a_ (g_ rfl) rfl (Q_ 0 K_ rfl rfl rfl rfl rfl rfl (e_ (b_ rfl (h_ (c_ (a_ (d_ rfl) rfl (a_ (d_ rfl) rfl (x_ (ej_ (k := (k : Int)) keyI Tryz.runUnderlying127 dK_ rfl rfl hE (fun v h _ => (h.own _ (List.mem_of_getElem? (i := 1) rfl)).1)) rfl fun r5 hr5 => ?_))))))))
    refine a_ (ce_ rfl) rfl (e_ (b_ rfl ?_))
    cases r5
    ·
     replace hr5 := dF hr5
     refine t_ rfl (c_ (a_ (d_ rfl) rfl (a_ (Y_ 0 aG_ K_ rfl rfl rfl) rfl (aJ_ A_ K_ aX_ rfl rfl rfl rfl rfl rfl fun b5 => ?_))))
     refine bi_ (news := List.flatMap Pc.cells [x2]) ff_ hr_Rpc rfl rfl (f_ (f_ (f_ (f_ S_)))) rfl (cy_ 0 rfl) (fun u hu => aK_ Pc.cells_one hu) (by simp only [maxLen]; ((try simp only [List.length_append, List.length_cons, List.length_nil]); omega)) (by ((try simp only [List.length_append, List.length_cons, List.length_nil]); omega)) rfl fun sv1 Hr1 hr1 => ?_
     refine aj_ List.perm_append_comm ?_
     have hq1 : aQ_ 47 10 sv1 (List.length ((cp_ wh 0 (List.take k (Wk.ps w))) ++ [x2])) (List.flatMap Pc.cells ((cp_ wh 0 (List.take k (Wk.ps w))) ++ [x2])) Hr1 := by rw [List.length_append, List.flatMap_append]; exact hr1
     refine a_ (g_ rfl) rfl (e_ (b_ rfl (c_ (a_ (M_ rfl rfl rfl (af_ (by omega) (by omega))) rfl (a_ (d_ rfl) rfl (e_ (w_ rfl ?_)))))))
     exact Z_ ⟨(k + 1, sv1, Hr1), hlx2, (by rw [ga_ hx2, if_neg (fun z => absurd ((hq _).2 z) (by assumption))]; exact hq1)⟩ (by dsimp only; omega) ⟨rfl, rfl, rfl, rfl, rfl, rfl, rfl, rfl, rfl, trivial⟩ (m_ (f_ (f_ i_)) (m_ (f_ (f_ i_)) (m_ (f_ (f_ i_)) (f_ S_)))) (fun _ _ h => h)
    ·
     replace hr5 := dT hr5
     refine v_ rfl (z_ (b_ rfl (c_ (a_ (M_ rfl rfl rfl (af_ (by omega) (by omega))) rfl (a_ (d_ rfl) rfl (e_ (w_ rfl ?_)))))))
     exact Z_ ⟨(k + 1, sv_Rpc, H_Rpc), hlx2, (by rw [ga_ hx2, if_pos ((hq _).1 (by assumption)), List.append_nil]; exact hr_Rpc)⟩ (by dsimp only; omega) ⟨rfl, rfl, rfl, rfl, rfl, rfl, rfl, rfl, rfl, trivial⟩ (m_ (f_ i_) (m_ (f_ i_) (m_ (f_ i_) S_))) (fun _ _ h => h)
 ·
  replace hr1 := of_decide_eq_true hr1
  have hlx1 : i < List.length wh := by omega
  obtain ⟨x1, hx1⟩ : ∃ e0, wh[i]? = some e0 := ⟨_, List.getElem?_eq_getElem hlx1⟩
  have hmx1 : x1 ∈ wh := List.mem_of_getElem? hx1
  refine t_ rfl (z_ (b_ rfl (h_ (R_ (h_ (c_ (a_ (d_ rfl) rfl (a_ (aa_ bT_ L_ rfl rfl (fun v _ h => ay_ (n := 1) ev_ (by decide) (by exact h.2.2.2.1) hx1) (by omega) (by first | omega | (simp; done))) rfl (a_ (aN_ (ad := had) P_ rfl (fun v _ h => by exact h.2.2.2.1) (ad_ ev_ hx1 0 _ rfl)) rfl ?_)))))))))
  refine a_ (g_ rfl) rfl (a_ (g_ rfl) rfl (e_ (b_ rfl (h_ (h_ (c_ (a_ (d_ rfl) rfl (x_ (av_ rfl rfl) rfl fun r6 hr6 => ?_))))))))
  refine a_ (d_ rfl) rfl ?_
  cases r6
  ·
   replace hr6 := of_decide_eq_false hr6
   refine p_ rfl rfl (a_ (d_ rfl) rfl (p_ rfl rfl (a_ (l_ aA_ rfl rfl rfl bE_) rfl (p_ rfl rfl (a_ (u_ 2 cc_ rfl rfl rfl) rfl (p_ rfl rfl (a_ (am_ A_ rfl) rfl (p_ rfl rfl (x_ (cG_ rfl rfl) rfl fun r7 hr7 => ?_)))))))))
   refine a_ (C_ rfl rfl) rfl (a_ (d_ rfl) rfl ?_)
   cases r7
   ·
    replace hr7 := of_decide_eq_false hr7
    refine p_ rfl rfl (a_ (d_ rfl) rfl (p_ rfl rfl (x_ (bR_ rfl rfl) rfl fun r8 hr8 => ?_)))
    refine p_ rfl rfl (a_ (d_ rfl) rfl ?_)
    cases r8
    ·
     replace hr8 := of_decide_eq_false hr8
     refine r_ rfl rfl rfl rfl (r_ rfl rfl rfl rfl (r_ rfl rfl rfl rfl (r_ rfl rfl rfl rfl (r_ rfl rfl rfl rfl (r_ rfl rfl rfl rfl (r_ rfl rfl rfl rfl (p_ rfl rfl (a_ (C_ rfl rfl) rfl (a_ (C_ rfl rfl) rfl ?_)))))))))
     refine e_ (b_ rfl (v_ rfl (z_ (b_ rfl (c_ (a_ (d_ rfl) rfl (a_ (d_ rfl) rfl (fz_ (k := x1) 0 keyI (.inr rfl) Tryz.runUnderlying127 rfl rfl rfl rfl hE fun ej1 cj1 hj1 => ?_))))))))
     refine e_ (b_ rfl (c_ (a_ (M_ rfl rfl rfl (af_ (by omega) (by omega))) rfl (a_ (d_ rfl) rfl (e_ (w_ rfl ?_))))))
     exact Z_ ⟨(i + 1, ej1, cj1, (if x1 ∈ q then q else q ++ [x1])), hlx1, hj1, iW_ hq hx1, fun x hx => by rw [List.take_add_one, hx1] at hx; simp only [Option.toList_some, List.mem_append, List.mem_singleton] at hx; rcases hx with hx | rfl; exact hb x hx; omega, mT_ (lt := fun x y : Int => x < y) Int.lt_trans hpw hx1 (fun a hja ha => by omega)⟩ (by dsimp only; omega) ⟨rfl, rfl, rfl, rfl, rfl, rfl, rfl, rfl, rfl, trivial⟩ (m_ i_ (m_ i_ i_)) (fun _ _ h => h)
    ·
     replace hr8 := of_decide_eq_true hr8
     have hly1 : (i - 1 : Nat) < List.length wh := by omega
     obtain ⟨y1, hy1⟩ : ∃ e0, wh[(i - 1 : Nat)]? = some e0 := ⟨_, List.getElem?_eq_getElem hly1⟩
     have hmy1 : y1 ∈ wh := List.mem_of_getElem? hy1
     refine p_ rfl rfl (a_ (d_ rfl) rfl (p_ rfl rfl (a_ (d_ rfl) rfl (p_ rfl rfl (a_ (bC_ (M_ rfl rfl rfl (af_ (by omega) (by omega))) (show Value.int .i64 ((i : Int) - 1) = Value.int .i64 ((i - 1 : Nat) : Int) from congrArg _ (by omega))) rfl (p_ rfl rfl (a_ (aa_ bT_ L_ rfl rfl (fun v _ h => ay_ (n := 1) ev_ (by decide) (by exact h.2.2.2.1) hy1) (by omega) (by first | omega | (simp; done))) rfl (p_ rfl rfl (a_ (aN_ (ad := had) P_ rfl (fun v _ h => by exact h.2.2.2.1) (ad_ ev_ hy1 0 _ rfl)) rfl ?_)))))))))
     refine p_ rfl rfl (a_ (d_ rfl) rfl (p_ rfl rfl (x_ (cG_ rfl rfl) rfl fun r9 hr9 => ?_)))
     refine p_ rfl rfl (a_ (H_ rfl rfl) rfl (a_ (C_ rfl rfl) rfl (e_ (b_ rfl ?_))))
     cases r9
     ·
      replace hr9 := of_decide_eq_false hr9
      refine v_ rfl (z_ (b_ rfl (c_ (a_ (d_ rfl) rfl (a_ (d_ rfl) rfl (fz_ (k := x1) 0 keyI (.inr rfl) Tryz.runUnderlying127 rfl rfl rfl rfl hE fun ej2 cj2 hj2 => ?_))))))
      refine e_ (b_ rfl (c_ (a_ (M_ rfl rfl rfl (af_ (by omega) (by omega))) rfl (a_ (d_ rfl) rfl (e_ (w_ rfl ?_))))))
      exact Z_ ⟨(i + 1, ej2, cj2, (if x1 ∈ q then q else q ++ [x1])), hlx1, hj2, iW_ hq hx1, fun x hx => by rw [List.take_add_one, hx1] at hx; simp only [Option.toList_some, List.mem_append, List.mem_singleton] at hx; rcases hx with hx | rfl; exact hb x hx; omega, mT_ (lt := fun x y : Int => x < y) Int.lt_trans hpw hx1 (fun a hja ha => by rw [hy1] at ha; cases ha; omega)⟩ (by dsimp only; omega) ⟨rfl, rfl, rfl, rfl, rfl, rfl, rfl, rfl, rfl, trivial⟩ (m_ i_ (m_ i_ i_)) (fun _ _ h => h)
     ·
      replace hr9 := of_decide_eq_true hr9
      refine t_ rfl (h_ (c_ (a_ (ap_ db_ rfl rfl) rfl (Q_ 1 U_ rfl rfl rfl rfl rfl rfl (a_ (g_ rfl) rfl (a_ (g_ rfl) rfl (e_ (b_ rfl (F_ ?_)))))))))
      exact cH_ ⟨((Wk.mk [] none 0 (Cl.mk [] none 0 [] none 0)), ([] : List Fc), none, 0, 1), by unfold eH_; rw [if_pos (fun z => by first | (have := (z.1.1 x1 hmx1); omega) | exact oI_ (lt := fun x y : Int => x < y) (by omega) hy1 hx1 (by omega) z.1.2)]; exact ⟨rfl, rfl, rfl⟩, ⟨Nat.le_refl _, by simp, fun _ => rfl⟩⟩ (fun aa v h1 h2 => cs_ (us := Wk.cells (Wk.mk [] none 0 (Cl.mk [] none 0 [] none 0))) 1 gl_ aF_ U_ rfl rfl rfl rfl rfl aa v h1 h2) I_ (fun v _ h => by exact ⟨.inl rfl, .inl rfl, .inl rfl, .inl rfl, trivial⟩)
   ·
    replace hr7 := of_decide_eq_true hr7
    refine r_ rfl rfl rfl rfl (r_ rfl rfl rfl rfl (r_ rfl rfl rfl rfl (r_ rfl rfl rfl rfl (r_ rfl rfl rfl rfl (r_ rfl rfl rfl rfl (r_ rfl rfl rfl rfl (r_ rfl rfl rfl rfl (r_ rfl rfl rfl rfl (r_ rfl rfl rfl rfl ?_)))))))))
    refine r_ rfl rfl rfl rfl (a_ (H_ rfl rfl) rfl (e_ (b_ rfl (t_ rfl (h_ (c_ (a_ (ap_ db_ rfl rfl) rfl (Q_ 1 U_ rfl rfl rfl rfl rfl rfl (a_ (g_ rfl) rfl ?_)))))))))
    refine a_ (g_ rfl) rfl (e_ (b_ rfl (F_ ?_)))
    exact cH_ ⟨((Wk.mk [] none 0 (Cl.mk [] none 0 [] none 0)), ([] : List Fc), none, 0, 1), by unfold eH_; rw [if_pos (fun z => by first | (have := (z.1.1 x1 hmx1); omega) | exact oI_ (lt := fun x y : Int => x < y) (by omega) hy1 hx1 (by omega) z.1.2)]; exact ⟨rfl, rfl, rfl⟩, ⟨Nat.le_refl _, by simp, fun _ => rfl⟩⟩ (fun aa v h1 h2 => cs_ (us := Wk.cells (Wk.mk [] none 0 (Cl.mk [] none 0 [] none 0))) 1 gl_ aF_ U_ rfl rfl rfl rfl rfl aa v h1 h2) I_ (fun v _ h => by exact ⟨.inl rfl, .inl rfl, .inl rfl, .inl rfl, trivial⟩)
  ·
   replace hr6 := of_decide_eq_true hr6
   refine r_ rfl rfl rfl rfl (r_ rfl rfl rfl rfl (r_ rfl rfl rfl rfl (r_ rfl rfl rfl rfl (r_ rfl rfl rfl rfl (a_ (H_ rfl rfl) rfl (a_ (d_ rfl) rfl (r_ rfl rfl rfl rfl (r_ rfl rfl rfl rfl (r_ rfl rfl rfl rfl ?_)))))))))
   refine r_ rfl rfl rfl rfl (r_ rfl rfl rfl rfl (r_ rfl rfl rfl rfl (r_ rfl rfl rfl rfl (r_ rfl rfl rfl rfl (r_ rfl rfl rfl rfl (r_ rfl rfl rfl rfl (r_ rfl rfl rfl rfl (a_ (H_ rfl rfl) rfl (e_ ?_)))))))))
   refine b_ rfl (t_ rfl (h_ (c_ (a_ (ap_ db_ rfl rfl) rfl (Q_ 1 U_ rfl rfl rfl rfl rfl rfl (a_ (g_ rfl) rfl (a_ (g_ rfl) rfl (e_ (b_ rfl ?_)))))))))
   refine F_ ?_
   exact cH_ ⟨((Wk.mk [] none 0 (Cl.mk [] none 0 [] none 0)), ([] : List Fc), none, 0, 1), by unfold eH_; rw [if_pos (fun z => by first | (have := (z.1.1 x1 hmx1); omega) | exact oI_ (lt := fun x y : Int => x < y) (by omega) hy1 hx1 (by omega) z.1.2)]; exact ⟨rfl, rfl, rfl⟩, ⟨Nat.le_refl _, by simp, fun _ => rfl⟩⟩ (fun aa v h1 h2 => cs_ (us := Wk.cells (Wk.mk [] none 0 (Cl.mk [] none 0 [] none 0))) 1 gl_ aF_ U_ rfl rfl rfl rfl rfl aa v h1 h2) I_ (fun v _ h => by exact ⟨.inl rfl, .inl rfl, .inl rfl, .inl rfl, trivial⟩)
end Go.Proofs.YtpdbbglpbngeiaaGreatDoor
namespace Go.Proofs.YtpdbbglpbngeiaaGreatDoor
open Go Go.Sx Go.Proofs
attribute [local irreducible] Code.wp wpList wpAnyH
open Go.Vs
theorem nd_ (p : List Pc) (pad : Option Addr) (pcap : Nat) (hp : p.length ≤ 1099511627776) (hbig : ∀ x ∈ p, x.big) : Tri Tryz.prog 31 #[.slice pad (List.length p) pcap] [] [az_ pad (List.flatMap Pc.cells p)] (fun b : {b : Bool // b = true → p.length ≤ 30 ∧ ∀ x ∈ p, x.sm} => .bool b.1) (fun _ => []) (fun _ => []) := by
  refine T_ Tryz.func31 rfl rfl Tryz.ntmps31 rfl fun v0 => ?_
  refine h_ (c_ (a_ (g_ rfl) rfl (e_ (b_ rfl (h_ (c_ (a_ (g_ rfl) rfl (e_ (b_ rfl ?_)))))))))
  refine h_ (h_ (c_ (a_ (d_ rfl) rfl (a_ (am_ A_ rfl) rfl (a_ (d_ rfl) rfl (e_ (b_ rfl (R_ ?_))))))))
  refine aL_ (ι := {y : Nat × Int // y.1 ≤ List.length p ∧ (List.length p ≤ 30 → y.2 = gh_ (List.take y.1 p))}) (fun y => [(0, .slice pad (List.length p) pcap), (3, .int .i64 y.1.2), (6, .slice pad (List.length p) pcap), (7, .int .i64 (List.length p : Int)), (8, .int .i64 (y.1.1 : Int))]) (fun y => ([])) (fun y => [az_ pad (List.flatMap Pc.cells p)]) (fun y => List.length p - y.1.1) ⟨((0 : Nat), 0), by simp, fun _ => rfl⟩ ⟨rfl, rfl, rfl, rfl, rfl, trivial⟩ I_ (fun _ _ h => h) ?_
  rintro ⟨⟨i, w⟩, hi, hw⟩
  dsimp only at hi hw ⊢
  refine h_ (c_ (x_ (av_ rfl rfl) rfl fun r1 hr1 => ?_))
  refine e_ (b_ rfl (h_ ?_))
  cases r1
  · skip
    replace hr1 := of_decide_eq_false hr1
    refine v_ rfl (au_ rfl (b_ rfl (h_ (c_ (a_ (d_ rfl) rfl (a_ (am_ A_ rfl) rfl (x_ (cf_ rfl rfl) rfl fun r2 hr2 => ?_)))))))
    refine a_ (d_ rfl) rfl ?_
    cases r2
    · skip
      replace hr2 := of_decide_eq_false hr2
      refine r_ rfl rfl rfl rfl (r_ rfl rfl rfl rfl (a_ (C_ rfl rfl) rfl (a_ (g_ rfl) rfl (e_ (b_ rfl (F_ ?_))))))
      exact aw_ Tryz.results31 ⟨false, fun h => by cases h⟩ rfl I_ (fun _ _ _ => trivial)
    · skip
      replace hr2 := of_decide_eq_true hr2
      refine p_ rfl rfl (a_ (d_ rfl) rfl (p_ rfl rfl (x_ (cf_ rfl rfl) rfl fun r3 hr3 => ?_)))
      refine a_ (H_ rfl rfl) rfl (a_ (g_ rfl) rfl (e_ (b_ rfl (F_ ?_))))
      exact aw_ Tryz.results31 ⟨r3, fun h => ⟨by omega, by rw [h] at hr3; have hle := of_decide_eq_true hr3; rw [hw (by omega), List.take_of_length_le (by omega)] at hle; exact mV_ hle (by decide)⟩⟩ rfl I_ (fun _ _ _ => trivial)
  · skip
    replace hr1 := of_decide_eq_true hr1
    have hlx1 : i < List.length p := by omega
    obtain ⟨x1, hx1⟩ : ∃ e0, p[i]? = some e0 := ⟨_, List.getElem?_eq_getElem hlx1⟩
    have hmx1 : x1 ∈ p := List.mem_of_getElem? hx1
    obtain ⟨q1, q2, q3, q4, q5, q6⟩ := hbig x1 hmx1
    refine t_ rfl (z_ (b_ rfl (h_ (R_ (h_ (c_ (a_ (aa_ A_ K_ rfl rfl (fun v _ h => ay_ (n := 10) Pc.cells_len (by decide) (by exact h.1) hx1) (by omega) (by first | omega | (simp; done))) rfl (a_ (aU_ (ad := pad) (us := Pc.cells x1) aG_ K_ rfl (fun v _ h => by exact h.1) (Pc.cells_len _) (ad_ Pc.cells_len hx1)) rfl (ao_ aX_ rfl fun b1 => ?_)))))))))
    refine Q_ 0 K_ rfl rfl rfl rfl rfl rfl (e_ (b_ rfl (c_ (a_ (d_ rfl) rfl (a_ (l_ k_ rfl rfl rfl j_) rfl (a_ (u_ 0 q_ rfl rfl rfl) rfl (a_ (bX_ V_ rfl) rfl (a_ (l_ k_ rfl rfl rfl j_) rfl (a_ (u_ 0 q_ rfl rfl rfl) rfl ?_)))))))))
    refine a_ (bX_ V_ rfl) rfl (a_ (M_ rfl rfl rfl (af_ (by omega) (by omega))) rfl (a_ (l_ k_ rfl rfl rfl j_) rfl (a_ (u_ 0 q_ rfl rfl rfl) rfl (a_ (bX_ V_ rfl) rfl (a_ (M_ rfl rfl rfl (af_ (by omega) (by omega))) rfl (a_ (l_ k_ rfl rfl rfl j_) rfl (a_ (u_ 0 q_ rfl rfl rfl) rfl (a_ (bX_ V_ rfl) rfl (a_ (M_ rfl rfl rfl (af_ (by omega) (by omega))) rfl ?_)))))))))
    refine a_ (l_ k_ rfl rfl rfl j_) rfl (a_ (u_ 0 q_ rfl rfl rfl) rfl (a_ (bX_ V_ rfl) rfl (a_ (M_ rfl rfl rfl (af_ (by omega) (by omega))) rfl (a_ (l_ k_ rfl rfl rfl j_) rfl (a_ (u_ 0 q_ rfl rfl rfl) rfl (a_ (bX_ V_ rfl) rfl (a_ (M_ rfl rfl rfl (af_ (by omega) (by omega))) rfl (a_ (of_ rfl rfl) rfl (a_ (g_ rfl) rfl ?_)))))))))
    refine e_ (b_ rfl (c_ (a_ (M_ rfl rfl rfl (af_ (by omega) (by omega))) rfl (a_ (d_ rfl) rfl (e_ (w_ rfl ?_))))))
    exact Z_ ⟨(i + 1, (IntKind.wrap .i64 (w + (((((((Pc.a x1).length : Int) + ((Pc.b x1).length : Int)) + ((Pc.c x1).length : Int)) + ((Pc.r x1).length : Int)) + ((Pc.s x1).length : Int)) + ((Pc.t x1).length : Int))))), hlx1, fun h40 => by rw [nz_ hx1, hw h40]; have hq := ly_ (l := List.take i p) (fun x hx => hbig x (List.mem_of_mem_take hx)); rw [List.length_take] at hq; unfold iP_; exact af_ (by omega) (by omega)⟩ (by dsimp only; omega) ⟨rfl, rfl, rfl, rfl, rfl, trivial⟩ I_ (fun _ _ h => h)
section
variable {P : Program} {N : Nat} {fr : Fr} {H : Hp} {Γ : List Fct} {ty : TypeId}
end
def P13 : List Pc := [⟨1, [65], [], [66], [], [], [], 0, 0, 0⟩, ⟨1, [66], [], [67], [], [], [], 0, 0, 0⟩, ⟨1, [65], [], [67], [], [], [], 0, 0, 0⟩]
def P12 : List Pc := [⟨1, [65], [], [66], [], [], [], 0, 0, 0⟩, ⟨1, [66], [], [67], [], [], [], 0, 0, 0⟩]
def P11 : List Pc := [⟨1, [65], [], [66], [], [], [], 0, 0, 0⟩]
theorem mE_ {p : List Pc} {B : List Str} (hs : mF_ B) (h : ∀ x, x ∈ B ↔ x ∈ cw_ p ∨ x = [42] ∨ x = [33]) : atS p = B :=
  eA_ eh_ List.lt_trans (jz_ p) hs fun x => by rw [it_, eF_, h]
theorem qu_ : atS P13 = A3 := mE_ (by decide) fun x => by
  have e : cw_ P13 = [[65], [66], [66], [67], [65], [67]] := by decide +kernel
  rw [e]; simp only [A3, List.mem_cons, List.not_mem_nil, or_false]
  constructor
  · rintro (h | h | h | h | h) <;> simp [h]
  · rintro ((h | h | h | h | h | h) | h | h) <;> simp [h]
theorem qv_ : atS P12 = A3 := mE_ (by decide) fun x => by
  have e : cw_ P12 = [[65], [66], [66], [67]] := by decide +kernel
  rw [e]; simp only [A3, List.mem_cons, List.not_mem_nil, or_false]
  constructor
  · rintro (h | h | h | h | h) <;> simp [h]
  · rintro ((h | h | h | h) | h | h) <;> simp [h]
def A2 : List Str := [[33], [42], [65], [66]]
theorem qw_ : atS P11 = A2 := mE_ (by decide) fun x => by
  have e : cw_ P11 = [[65], [66]] := by decide +kernel
  rw [e]; simp only [A2, List.mem_cons, List.not_mem_nil, or_false]
  constructor
  · rintro (h | h | h | h) <;> simp [h]
  · rintro ((h | h) | h | h) <;> simp [h]
theorem kS_ : bM_ P13 = 0 := by decide +kernel
theorem ni_ : bM_ P12 = 0 := by decide +kernel
theorem nj_ : bM_ P11 = 0 := by decide +kernel
def F13 : List Fc := gQ_ P13 A3 4
def F11 : List Fc := gQ_ P11 A2 4
theorem F13_is : dt_ P13 A3 100 (some F13) := hH_ (fb_ kS_) 4 100 (by decide +kernel) (by decide +kernel)
theorem F12_is : dt_ P12 A3 100 (some F13) := by
  have h : dt_ P12 A3 100 (some (gQ_ P12 A3 4)) := hH_ (fb_ ni_) 4 100 (by decide +kernel) (by decide +kernel)
  have e : gQ_ P12 A3 4 = F13 := by decide +kernel
  rw [e] at h; exact h
theorem F11_is : dt_ P11 A2 100 (some F11) := hH_ (fb_ nj_) 4 100 (by decide +kernel) (by decide +kernel)
theorem pJ_ : (bD_ F13 F0).length = 9 := by decide +kernel
theorem pm_ : (bD_ F13 F13).length = 0 := by decide +kernel
theorem oX_ : (bD_ F13 F11).length = 4 := by decide +kernel
theorem nk_ : F13.length = 12 := by decide +kernel
theorem hm_ {p : List Pc} {bu : Int} {w : Wk} {e : Int} {L : List Fc} (h : cY_ p bu w e) (hc : bM_ p = 0) (hb : 0 ≤ bu) (hb2 : bu ≤ 1073741824) (hr : dt_ p (atS p) (min bu 65536).toNat (some L)) : e = 0 ∧ w.ps = p ∧ w.cl.facts = L ∧ w.cl.atoms = atS p ∧ w.ok := by
  obtain ⟨c, h1, h2, _⟩ := h
  obtain ⟨q1, q2, q3⟩ := (iu_ h1 hc hb hb2 hr).1 _ rfl
  obtain ⟨r1, r2, r3⟩ := h2 q1
  exact ⟨q1, r1, by rw [r2, q2], by rw [r2, q3], r3⟩
theorem s13_1 {w : Wk} {e : Int} (h : cY_ [] 3 w e) : e = 0 ∧ w.ps = [] ∧ w.cl.facts = F0 ∧ w.ok := by
  obtain ⟨a, b, c, _, d⟩ := hm_ h kw_ (by decide) (by decide) (L := F0) (by rw [kL_]; exact F0_is 3 (by decide))
  exact ⟨a, b, c, d⟩
theorem s13_2 {w : Wk} {e : Int} (h : cY_ [] 2 w e) : e = 3 := by
  obtain ⟨c, h1, _⟩ := h
  exact (sane2 h1).1
theorem s13_3 {w x : Wk} {g : List Fc} {e : Int} (hw : w.ps = []) (hf : w.cl.facts = F0) (h : ex_ w P13 100 x g e) : e = 0 ∧ x.ps = P13 ∧ x.cl.facts = F13 ∧ x.ok ∧ g.length = 9 := by
  unfold ex_ at h
  rw [if_neg (by rw [kS_]; decide), if_neg (by decide), if_neg (by rw [hw]; decide), hw, List.nil_append] at h
  obtain ⟨a, b, c, _, d⟩ := hm_ h.1 kS_ (by decide) (by decide) (L := F13) (by rw [qu_]; exact F13_is)
  refine ⟨a, b, c, d, ?_⟩
  rw [h.2, if_pos a, c, hf]; exact pJ_
theorem s13_4 {x y : Wk} {g : List Fc} {e : Int} (hx : x.ps = P13) (hf : x.cl.facts = F13) (h : eH_ x [2] 100 y g e) : e = 0 ∧ y.ps = P12 ∧ y.cl.facts = F13 ∧ y.ok ∧ g.length = 0 := by
  unfold eH_ at h
  rw [if_neg (by rw [hx]; decide), hx, show cp_ [2] 0 P13 = P12 by decide +kernel] at h
  obtain ⟨a, b, c, _, d⟩ := hm_ h.1 ni_ (by decide) (by decide) (L := F13) (by rw [qv_]; exact F12_is)
  refine ⟨a, b, c, d, ?_⟩
  rw [h.2, if_pos a, c, hf]; exact pm_
theorem s13_5 {x y : Wk} {g : List Fc} {e : Int} (hx : x.ps = P12) (hf : x.cl.facts = F13) (h : eH_ x [1] 100 y g e) : e = 0 ∧ g.length = 4 := by
  unfold eH_ at h
  rw [if_neg (by rw [hx]; decide), hx, show cp_ [1] 0 P12 = P11 by decide +kernel] at h
  obtain ⟨a, b, c, _, d⟩ := hm_ h.1 nj_ (by decide) (by decide) (L := F11) (by rw [qw_]; exact F11_is)
  refine ⟨a, ?_⟩
  rw [h.2, if_pos a, c, hf]; exact oX_
theorem s13_6 {e : Int} (h : jA_ Wk.no e) : e = 1 := by
  unfold jA_ at h
  rw [if_neg (by rw [show Wk.no.ps = [] from rfl, kw_]; decide)] at h
  obtain ⟨c, e1, h1, h2⟩ := h
  rw [h2, if_neg]
  rintro ⟨q1, q2, _⟩
  subst q1
  have h1' : dI_ [] 1073741824 c 0 := h1
  have := h1'.good.2.2.2.2.1
  rw [q2, kL_] at this
  cases this
theorem pB_ : ∀ x ∈ P13, x.sm := Pc.sm_all (by decide +kernel)
theorem P12_sm : ∀ x ∈ P12, x.sm := Pc.sm_all (by decide +kernel)
end Go.Proofs.YtpdbbglpbngeiaaGreatDoor
namespace Go.Proofs.YtpdbbglpbngeiaaGreatDoor
open Go Go.Sx Go.Proofs
attribute [local irreducible] Code.wp wpList wpAnyH
open Go.Vs
set_option maxHeartbeats 1000000 in
theorem ou_ : Tri Tryz.prog 30 #[] [] [gP_] (fun _ : Unit => .bool true) (fun _ => []) (fun _ => []) := by
 refine T_ Tryz.func30 rfl rfl Tryz.ntmps30 rfl fun v0 => ?_
 refine h_ (c_ (a_ (g_ rfl) rfl (e_ (b_ rfl (h_ (c_ (W_ (in_ ([] : List Pc) none 0 3 (fun y hy => by simp at hy) (Nat.le_refl _) (by simp)) rfl I_ (fun v _ h => by exact ⟨.inl rfl, h.1, trivial⟩) rfl fun ⟨⟨w1, e1⟩, hw1⟩ => ?_)))))))
 dsimp only
 dsimp only at hw1
 obtain ⟨rfl, hp1, hf1, hk1⟩ := s13_1 hw1
 refine a_ (d_ rfl) rfl (a_ (ae_ rfl rfl) rfl (a_ (ae_ rfl rfl) rfl (ao_ bA_ rfl fun b1 => ?_)))
 refine Q_ 0 U_ rfl rfl rfl rfl rfl rfl (a_ (g_ rfl) rfl (e_ (b_ rfl (h_ (c_ (W_ (in_ ([] : List Pc) none 0 2 (fun y hy => by simp at hy) (Nat.le_refl _) (by simp)) rfl I_ (fun v _ h => by exact ⟨.inl rfl, h.2.2.2.1, trivial⟩) rfl fun ⟨⟨w2, e2⟩, hw2⟩ => ?_))))))
 dsimp only
 dsimp only at hw2
 obtain rfl := s13_2 hw2
 refine a_ (d_ rfl) rfl (a_ (ae_ rfl rfl) rfl (a_ (ae_ rfl rfl) rfl (ao_ bA_ rfl fun b2 => ?_)))
 refine Q_ 0 U_ rfl rfl rfl rfl rfl rfl (a_ (g_ rfl) rfl (e_ (b_ rfl (h_ (c_ (a_ (ap_ ko_ rfl rfl) rfl (a_ (ap_ ko_ rfl rfl) rfl (a_ (ap_ ko_ rfl rfl) rfl (aJ_ A_ K_ aX_ rfl rfl rfl rfl rfl rfl fun b3 => ?_)))))))))
 refine bz_ (List.flatMap Pc.cells [(Pc.mk 1 [65] [] [66] [] [] [] 0 0 0), (Pc.mk 1 [66] [] [67] [] [] [] 0 0 0), (Pc.mk 1 [65] [] [67] [] [] [] 0 0 0)]) i_ rfl ?_
 refine a_ (g_ rfl) rfl (e_ (b_ rfl (h_ (c_ (a_ (Y_ 1 aF_ U_ rfl rfl rfl) rfl (a_ (d_ rfl) rfl (W_ (qJ_ w1 P13 (some ⟨b3, 0, none⟩) 3 100 (fun y hy => by rw [hp1] at hy; simp at hy) hk1.al hk1.az (by rw [hp1]; simp) (by rw [hf1, pD_]; omega) pB_ (by decide) (fun z => by cases z) (by decide)) rfl I_ (fun v _ h => by exact ⟨h.2.2.2.2.1, h.2.2.2.2.2.1, h.2.2.2.2.2.2.1, h.1, h.2.2.2.2.2.2.2.1, trivial⟩) rfl fun ⟨⟨w3, g3, gad3, gcp3, e3⟩, ha3, hb3⟩ => ?_)))))))
 dsimp only
 dsimp only at ha3 hb3
 obtain ⟨rfl, hp3, hf3, hk3, hg3⟩ := s13_3 hp1 hf1 ha3
 refine a_ (d_ rfl) rfl (a_ (ae_ rfl rfl) rfl (a_ (ae_ rfl rfl) rfl (a_ (ae_ rfl rfl) rfl (ao_ bA_ rfl fun b4 => ?_))))
 refine Q_ 0 U_ rfl rfl rfl rfl rfl rfl (a_ (g_ rfl) rfl (a_ (g_ rfl) rfl (e_ (b_ rfl (h_ (c_ (a_ (Y_ 0 aF_ U_ rfl rfl rfl) rfl (aJ_ bT_ L_ Tryz.zeroValue3 rfl rfl rfl rfl rfl rfl fun b5 => ?_))))))))
 refine bz_ (List.flatMap gZ_ [2]) i_ rfl ?_
 refine W_ (iI_ w3 [2] (some ⟨b5, 0, none⟩) 1 100 (fun y hy => by rw [hp3] at hy; exact pB_ y hy) hk3.al hk3.az (by rw [hp3]; decide) (by rw [hf3, nk_]; omega) (by simp)) rfl I_ (fun v _ h => by exact ⟨h.2.1, h.2.2.1, h.2.2.2.1, h.1, h.2.2.2.2.2.2.2.2.2.2.2.2.1, trivial⟩) rfl fun ⟨⟨w4, g4, gad4, gcp4, e4⟩, ha4, hb4⟩ => ?_
 dsimp only
 dsimp only at ha4 hb4
 obtain ⟨rfl, hp4, hf4, hk4, hg4⟩ := s13_4 hp3 hf3 ha4
 refine a_ (d_ rfl) rfl (a_ (ae_ rfl rfl) rfl (a_ (ae_ rfl rfl) rfl (a_ (ae_ rfl rfl) rfl (ao_ bA_ rfl fun b6 => ?_))))
 refine Q_ 0 U_ rfl rfl rfl rfl rfl rfl (a_ (g_ rfl) rfl (a_ (g_ rfl) rfl (e_ (b_ rfl (h_ (c_ (a_ (Y_ 0 aF_ U_ rfl rfl rfl) rfl (aJ_ bT_ L_ Tryz.zeroValue3 rfl rfl rfl rfl rfl rfl fun b7 => ?_))))))))
 refine bz_ (List.flatMap gZ_ [1]) i_ rfl ?_
 refine W_ (iI_ w4 [1] (some ⟨b7, 0, none⟩) 1 100 (fun y hy => by rw [hp4] at hy; exact P12_sm y hy) hk4.al hk4.az (by rw [hp4]; decide) (by rw [hf4, nk_]; omega) (by simp)) rfl I_ (fun v _ h => by exact ⟨h.2.1, h.2.2.1, h.2.2.2.1, h.1, h.2.2.2.2.2.2.2.2.2.2.2.2.2.2.2.2.2.1, trivial⟩) rfl fun ⟨⟨w5, g5, gad5, gcp5, e5⟩, ha5, hb5⟩ => ?_
 dsimp only
 dsimp only at ha5 hb5
 obtain ⟨rfl, hg5⟩ := s13_5 hp4 hf4 ha5
 refine a_ (d_ rfl) rfl (a_ (ae_ rfl rfl) rfl (a_ (ae_ rfl rfl) rfl (a_ (ae_ rfl rfl) rfl (ao_ bA_ rfl fun b8 => ?_))))
 refine Q_ 0 U_ rfl rfl rfl rfl rfl rfl (a_ (g_ rfl) rfl (a_ (g_ rfl) rfl (e_ (b_ rfl (h_ (c_ (a_ (d_ rfl) rfl (a_ (bC_ (aM_ rfl rfl) (show _ = Value.bool true from congrArg Value.bool (by decide))) rfl (a_ (d_ rfl) rfl ?_)))))))))
 refine p_ rfl rfl (a_ (l_ aA_ rfl rfl rfl ab_) rfl (p_ rfl rfl (a_ (l_ aB_ rfl rfl rfl bl_) rfl (p_ rfl rfl (a_ (u_ 4 bt_ rfl rfl rfl) rfl (p_ rfl rfl (a_ (am_ G_ rfl) rfl (p_ rfl rfl (x_ (aM_ rfl rfl) rfl fun r1 hr1 => ?_)))))))))
 refine a_ (H_ rfl rfl) rfl (a_ (d_ rfl) rfl ?_)
 cases r1
 ·
  replace hr1 := ne_of_beq_false hr1
  exact absurd (by rw [hf1, pD_]; rfl) hr1
 ·
  replace hr1 := eq_of_beq hr1
  refine p_ rfl rfl (a_ (d_ rfl) rfl (p_ rfl rfl (a_ (bC_ (aM_ rfl rfl) (show _ = Value.bool true from congrArg Value.bool (by decide))) rfl (a_ (H_ rfl rfl) rfl (a_ (d_ rfl) rfl (p_ rfl rfl (a_ (ap_ db_ rfl rfl) rfl (p_ rfl rfl (W_ (chkW_c ((Wk.mk [] none 0 (Cl.mk [] none 0 [] none 0))) (fun y hy => by simp at hy) (by simp) (by simp) (by simp)) rfl I_ (fun v _ h => by exact ⟨.inl rfl, .inl rfl, .inl rfl, h.2.2.2.2.2.2.2.2.2.2.2.2.2.2.2.2.2.2.2.2.2.1, trivial⟩) rfl fun ⟨e9, he9⟩ => ?_)))))))))
  dsimp only
  obtain rfl := s13_6 he9
  refine p_ rfl rfl (a_ (bC_ (aM_ rfl rfl) (show _ = Value.bool true from congrArg Value.bool (by decide))) rfl (a_ (H_ rfl rfl) rfl (a_ (d_ rfl) rfl (p_ rfl rfl (a_ (d_ rfl) rfl (p_ rfl rfl (a_ (bC_ (aM_ rfl rfl) (show _ = Value.bool true from congrArg Value.bool (by decide))) rfl (a_ (H_ rfl rfl) rfl (a_ (d_ rfl) rfl ?_)))))))))
  refine p_ rfl rfl (a_ (d_ rfl) rfl (p_ rfl rfl (a_ (am_ G_ rfl) rfl (p_ rfl rfl (x_ (aM_ rfl rfl) rfl fun r2 hr2 => ?_)))))
  refine a_ (H_ rfl rfl) rfl (a_ (d_ rfl) rfl ?_)
  cases r2
  ·
   replace hr2 := ne_of_beq_false hr2
   exact absurd (by rw [hg3]; rfl) hr2
  ·
   replace hr2 := eq_of_beq hr2
   refine p_ rfl rfl (a_ (d_ rfl) rfl (p_ rfl rfl (a_ (bC_ (aM_ rfl rfl) (show _ = Value.bool true from congrArg Value.bool (by decide))) rfl (a_ (H_ rfl rfl) rfl (a_ (d_ rfl) rfl (p_ rfl rfl (a_ (d_ rfl) rfl (p_ rfl rfl (a_ (am_ G_ rfl) rfl ?_)))))))))
   refine p_ rfl rfl (x_ (aM_ rfl rfl) rfl fun r3 hr3 => ?_)
   refine a_ (H_ rfl rfl) rfl (a_ (d_ rfl) rfl ?_)
   cases r3
   ·
    replace hr3 := ne_of_beq_false hr3
    exact absurd (by rw [hg4]; rfl) hr3
   ·
    replace hr3 := eq_of_beq hr3
    refine p_ rfl rfl (a_ (d_ rfl) rfl (p_ rfl rfl (a_ (bC_ (aM_ rfl rfl) (show _ = Value.bool true from congrArg Value.bool (by decide))) rfl (a_ (H_ rfl rfl) rfl (a_ (d_ rfl) rfl (p_ rfl rfl (a_ (d_ rfl) rfl (p_ rfl rfl (a_ (am_ G_ rfl) rfl ?_)))))))))
    refine p_ rfl rfl (x_ (aM_ rfl rfl) rfl fun r4 hr4 => ?_)
    refine a_ (H_ rfl rfl) rfl (a_ (g_ rfl) rfl (e_ (b_ rfl (F_ ?_))))
    exact aw_ Tryz.results30 () (y_ rfl (by rw [← hr4, hg5]; rfl)) I_ (fun _ _ _ => trivial)
end Go.Proofs.YtpdbbglpbngeiaaGreatDoor
namespace Go.Proofs.YtpdbbglpbngeiaaGreatDoor
open Go Go.Sx Go.Proofs
attribute [local irreducible] Code.wp wpList wpAnyH
open Go.Vs
structure Chg where
  ps : List Pc
  ad : Option Addr
  cap : Nat
  msk : Int
def Chg.cells (c : Chg) : List Value := [.slice c.ad c.ps.length c.cap, .int .u32 c.msk]
theorem Chg.cells_len (c : Chg) : c.cells.length = 2 := rfl
def Chg.val (c : Chg) : Value := .agg c.cells.toArray
structure Chg.ok (c : Chg) : Prop where
  le : c.ps.length ≤ c.cap
  nz : c.ad = none → c.cap = 0
  mx : c.cap ≤ 1099511627744
  big : ∀ x ∈ c.ps, x.big
end Go.Proofs.YtpdbbglpbngeiaaGreatDoor
namespace Go.Proofs.YtpdbbglpbngeiaaGreatDoor
open Go Go.Sx Go.Proofs
attribute [local irreducible] Code.wp wpList wpAnyH
open Go.Vs
theorem nH_ (xs : List PL) (xad : Option Addr) (xcap : Nat) (hok : ∀ x ∈ xs, x.ok) (hl : xs.length ≤ 100) (hsm : ∀ x ∈ dM_ xs, x.sm) (hp : (dM_ xs).length ≤ 100) : Tri Tryz.prog 33 #[.slice xad (List.length xs) xcap] [] [az_ xad (List.flatMap PL.cells xs), plF xs] (fun b : Bool => .bool b) (fun _ => []) (fun _ => []) := by
  refine T_ Tryz.func33 rfl rfl Tryz.ntmps33 rfl fun v0 => ?_
  refine h_ (c_ (a_ (g_ rfl) rfl (e_ (b_ rfl (h_ (c_ (a_ (g_ rfl) rfl (e_ (b_ rfl ?_)))))))))
  refine h_ (h_ (c_ (a_ (d_ rfl) rfl (a_ (am_ dr_ rfl) rfl (a_ (d_ rfl) rfl (e_ (b_ rfl (R_ ?_))))))))
  refine aL_ (ι := {y : Nat × Value × Hp // y.1 ≤ List.length xs ∧ aQ_ 47 10 y.2.1 (List.length (dM_ (List.take y.1 xs))) (List.flatMap Pc.cells (dM_ (List.take y.1 xs))) y.2.2}) (fun y => [(8, .slice xad (List.length xs) xcap), (9, .int .i64 (List.length xs : Int)), (10, .int .i64 (y.1.1 : Int)), (3, y.1.2.1)]) (fun y => (y.1.2.2)) (fun y => [az_ xad (List.flatMap PL.cells xs), plF xs]) (fun y => List.length xs - y.1.1) ⟨((0 : Nat), (.slice none 0 0), []), by simp, (aQ_.nil _ _)⟩ ⟨rfl, rfl, rfl, rfl, trivial⟩ I_ (fun _ _ h => h) ?_
  rintro ⟨⟨j, sv_Rp, H_Rp⟩, hj, hr_Rp⟩
  dsimp only at hj hr_Rp ⊢
  have hpl := kb_ hok j
  refine h_ (c_ (x_ (av_ rfl rfl) rfl fun r1 hr1 => ?_))
  refine e_ (b_ rfl (h_ ?_))
  cases r1
  · skip
    replace hr1 := of_decide_eq_false hr1
    rw [List.take_of_length_le (by omega)] at hr_Rp
    refine v_ rfl (au_ rfl (b_ rfl (h_ (c_ (a_ (d_ rfl) rfl (bk_ hr_Rp aD_ fun tad tcp htad hctad hmtad hztad => ?_))))))
    subst htad
    refine W_ (oH_ (dM_ xs) tad tcp 1000 hsm (by omega)) rfl I_ (fun v _ h => by exact ⟨h.1, trivial⟩) rfl fun ⟨⟨c1, e1⟩, hA1⟩ => ?_
    dsimp only
    dsimp only at hA1
    refine a_ (d_ rfl) rfl (a_ (ae_ rfl rfl) rfl (a_ (ae_ rfl rfl) rfl (ao_ dQ_ rfl fun b1 => ?_)))
    refine Q_ 0 ab_ rfl rfl rfl rfl rfl rfl (a_ (g_ rfl) rfl (e_ (b_ rfl (h_ (c_ (a_ (d_ rfl) rfl (x_ (bN_ rfl rfl) rfl fun r2 hr2 => ?_)))))))
    refine a_ (g_ rfl) rfl (e_ (b_ rfl (F_ ?_)))
    exact aw_ Tryz.results33 r2 rfl I_ (fun _ _ _ => trivial)
  · skip
    replace hr1 := of_decide_eq_true hr1
    have hlx2 : j < List.length xs := by omega
    obtain ⟨x2, hx2⟩ : ∃ e0, xs[j]? = some e0 := ⟨_, List.getElem?_eq_getElem hlx2⟩
    have hmx2 : x2 ∈ xs := List.mem_of_getElem? hx2
    have hsh1 := (hok x2 hmx2).sh
    refine t_ rfl (z_ (b_ rfl (h_ (R_ (h_ (c_ (a_ (aa_ dr_ bE_ rfl rfl (fun v _ h => ay_ (n := 1) PL.cells_len (by decide) (by exact h.1) hx2) (by omega) (by first | omega | (simp; done))) rfl (a_ (aN_ (ad := xad) cc_ rfl (fun v _ h => by exact h.1) (ad_ PL.cells_len hx2 0 _ rfl)) rfl (a_ (g_ rfl) rfl ?_)))))))))
    refine e_ (b_ rfl (c_ (a_ (d_ rfl) rfl (a_ (d_ rfl) rfl (aI_ (news := List.flatMap Pc.cells (PL.l x2)) ff_ hr_Rp rfl rfl (hok x2 hmx2).nz (hok x2 hmx2).le aD_ (by rw [bp_ Pc.cells 10 Pc.cells_len]) (fun v _ h => by exact (h.2.1 x2 hmx2)) (fun u hu => aK_ Pc.cells_one hu) (by simp only [maxLen]; (have := (hok x2 hmx2).sh; omega)) (by (have := (hok x2 hmx2).sh; omega)) rfl fun sv1 Hr1 hr1 => ?_)))))
    refine aj_ List.perm_append_comm ?_
    have hq1 : aQ_ 47 10 sv1 (List.length ((dM_ (List.take j xs)) ++ (PL.l x2))) (List.flatMap Pc.cells ((dM_ (List.take j xs)) ++ (PL.l x2))) Hr1 := by rw [List.length_append, List.flatMap_append]; exact hr1
    refine a_ (g_ rfl) rfl (e_ (b_ rfl (c_ (a_ (M_ rfl rfl rfl (af_ (by omega) (by omega))) rfl (a_ (d_ rfl) rfl (e_ (w_ rfl ?_)))))))
    exact Z_ ⟨(j + 1, sv1, Hr1), hlx2, (by rw [iN_ hx2]; exact hq1)⟩ (by dsimp only; omega) ⟨rfl, rfl, rfl, rfl, trivial⟩ aD_ (fun _ _ h => h)
theorem jU_ (v w : Wk) (hv : v.ps.length ≤ 1000000000000) (hw : w.ps.length ≤ 1000000000000) (h1 : v.cl.atoms.length ≤ 1000000000000) (h2 : v.cl.facts.length ≤ 1000000000000) (h3 : w.cl.atoms.length ≤ 1000000000000) (h4 : w.cl.facts.length ≤ 1000000000000) : Tri Tryz.prog 36 #[Wk.val v, Wk.val w] [] [az_ (Wk.pad v) (List.flatMap Pc.cells (Wk.ps v)), az_ (Cl.aad (Wk.cl v)) (List.flatMap aO_ (Cl.atoms (Wk.cl v))), az_ (Cl.fad (Wk.cl v)) (List.flatMap Fc.cells (Cl.facts (Wk.cl v))), az_ (Wk.pad w) (List.flatMap Pc.cells (Wk.ps w)), az_ (Cl.aad (Wk.cl w)) (List.flatMap aO_ (Cl.atoms (Wk.cl w))), az_ (Cl.fad (Wk.cl w)) (List.flatMap Fc.cells (Cl.facts (Wk.cl w)))] (fun _ : Unit => .bool (decide (v.ps = w.ps) && (decide (Cl.atoms (Wk.cl v) = Cl.atoms (Wk.cl w)) && decide (Cl.facts (Wk.cl v) = Cl.facts (Wk.cl w))))) (fun _ => []) (fun _ => []) := by
 refine T_ Tryz.func36 rfl rfl Tryz.ntmps36 rfl fun v0 => ?_
 refine h_ (c_ (bs_ rfl rfl fun b1 => ?_))
 refine bs_ rfl rfl fun b2 => ?_
 refine a_ (g_ rfl) rfl (e_ (b_ rfl (h_ (h_ (c_ (a_ (l_ aA_ rfl rfl rfl bE_) rfl (a_ (u_ 1 cc_ rfl rfl rfl) rfl (a_ (am_ A_ rfl) rfl (a_ (l_ aA_ rfl rfl rfl bE_) rfl ?_)))))))))
 refine a_ (u_ 0 cc_ rfl rfl rfl) rfl (a_ (am_ A_ rfl) rfl (x_ (bN_ rfl rfl) rfl fun r1 hr1 => ?_))
 refine a_ (d_ rfl) rfl ?_
 cases r1
 ·
  replace hr1 := bb_ hr1
  have hlen : (Wk.ps v).length = (Wk.ps w).length := by have := hr1; omega
  refine p_ rfl rfl (a_ (l_ aA_ rfl rfl rfl ab_) rfl (p_ rfl rfl (a_ (Y_ 1 aZ_ ab_ rfl rfl rfl) rfl (p_ rfl rfl (a_ (l_ aA_ rfl rfl rfl ab_) rfl (p_ rfl rfl (a_ (Y_ 0 aZ_ ab_ rfl rfl rfl) rfl (p_ rfl rfl (as_ (pR_ (Wk.cl v) (Wk.cl w) (by omega) (by omega) (by omega) (by omega)) rfl I_ (fun v _ h => by exact ⟨h.2.1, h.2.2.1, h.2.2.2.2.1, h.2.2.2.2.2.1, trivial⟩) rfl fun r2 hr2 => ?_)))))))))
  refine p_ rfl rfl (a_ (ce_ rfl) rfl (a_ (C_ rfl rfl) rfl (e_ (b_ rfl ?_))))
  cases r2
  ·
   simp at hr2
   refine t_ rfl (h_ (c_ (a_ (g_ rfl) rfl (e_ (b_ rfl (F_ ?_))))))
   exact aw_ Tryz.results36 () (y_ rfl (by symm; rw [Bool.and_eq_false_iff]; first | (left; apply decide_eq_false; intro e; rw [e] at *; exact absurd rfl (by assumption)) | (right; simp_all; done) | (left; apply decide_eq_false; intro e; rw [e] at hr1; exact hr1 rfl))) I_ (fun _ _ _ => trivial)
  ·
   simp at hr2
   have hsame := hr2
   refine v_ rfl (z_ (b_ rfl (h_ (h_ (c_ (a_ (g_ rfl) rfl (e_ (b_ rfl (R_ ?_)))))))))
   refine aL_ (ι := {y : Nat // y ≤ (Wk.ps v).length ∧ (Wk.ps v).take y = (Wk.ps w).take y}) (fun y => [(2, zp_ b1 0), (3, zp_ b2 0), (5, .int .i64 (y.1 : Int))]) (fun y => ((b2, .cells #[.slice (Wk.pad w) (List.length (Wk.ps w)) (Wk.pcap w), .slice (Cl.aad (Wk.cl w)) (List.length (Cl.atoms (Wk.cl w))) (Cl.acap (Wk.cl w)), .slice (Cl.fad (Wk.cl w)) (List.length (Cl.facts (Wk.cl w))) (Cl.fcap (Wk.cl w))] 50 (0, 0)) :: ((b1, .cells #[.slice (Wk.pad v) (List.length (Wk.ps v)) (Wk.pcap v), .slice (Cl.aad (Wk.cl v)) (List.length (Cl.atoms (Wk.cl v))) (Cl.acap (Wk.cl v)), .slice (Cl.fad (Wk.cl v)) (List.length (Cl.facts (Wk.cl v))) (Cl.fcap (Wk.cl v))] 50 (0, 0)) :: []))) (fun y => [az_ (Wk.pad v) (List.flatMap Pc.cells (Wk.ps v)), az_ (Cl.aad (Wk.cl v)) (List.flatMap aO_ (Cl.atoms (Wk.cl v))), az_ (Cl.fad (Wk.cl v)) (List.flatMap Fc.cells (Cl.facts (Wk.cl v))), az_ (Wk.pad w) (List.flatMap Pc.cells (Wk.ps w)), az_ (Cl.aad (Wk.cl w)) (List.flatMap aO_ (Cl.atoms (Wk.cl w))), az_ (Cl.fad (Wk.cl w)) (List.flatMap Fc.cells (Cl.facts (Wk.cl w)))]) (fun y => (Wk.ps v).length - y.1) ⟨(0 : Nat), by simp, by simp⟩ ⟨rfl, rfl, rfl, trivial⟩ (m_ i_ i_) (fun _ _ h => h) ?_
   rintro ⟨i, hi, he⟩
   dsimp only at hi he ⊢
   refine h_ (h_ (c_ (a_ (d_ rfl) rfl (a_ (l_ aA_ rfl rfl rfl bE_) rfl (a_ (u_ 1 cc_ rfl rfl rfl) rfl (a_ (am_ A_ rfl) rfl (x_ (av_ rfl rfl) rfl fun r3 hr3 => ?_)))))))
   refine e_ (b_ rfl ?_)
   cases r3
   ·
    replace hr3 := of_decide_eq_false hr3
    have hpe : (Wk.ps v) = (Wk.ps w) := by rwa [List.take_of_length_le (by omega), List.take_of_length_le (by omega)] at he
    refine v_ rfl (au_ rfl (b_ rfl (h_ (c_ (a_ (g_ rfl) rfl (e_ (b_ rfl (F_ ?_))))))))
    exact aw_ Tryz.results36 () (y_ rfl (by rw [decide_eq_true hpe, decide_eq_true hsame.1, decide_eq_true hsame.2]; rfl)) I_ (fun _ _ _ => trivial)
   ·
    replace hr3 := of_decide_eq_true hr3
    have hlx1 : i < List.length (Wk.ps v) := by omega
    obtain ⟨x1, hx1⟩ : ∃ e0, (Wk.ps v)[i]? = some e0 := ⟨_, List.getElem?_eq_getElem hlx1⟩
    have hmx1 : x1 ∈ (Wk.ps v) := List.mem_of_getElem? hx1
    have hlx2 : i < List.length (Wk.ps w) := by omega
    obtain ⟨x2, hx2⟩ : ∃ e0, (Wk.ps w)[i]? = some e0 := ⟨_, List.getElem?_eq_getElem hlx2⟩
    have hmx2 : x2 ∈ (Wk.ps w) := List.mem_of_getElem? hx2
    refine t_ rfl (z_ (b_ rfl (h_ (R_ (h_ ?_)))))
    refine aS_ (by kernel_rfl) ?_
    refine ah_ 0 [0, 1, 2, 3, 4, 5, 6, 7, 8, 9, 10] (by kernel_rfl) (fun _ a b => ⟨a, b⟩) (n_ rfl (l_ aA_ rfl rfl rfl bE_) rfl (n_ rfl (u_ 1 cc_ rfl rfl rfl) rfl (n_ rfl (d_ rfl) rfl (n_ rfl (aa_ A_ K_ rfl rfl (fun v _ h => ay_ (n := 10) Pc.cells_len (by decide) (by exact h.1) hx1) (by omega) (by first | omega | (simp; done))) rfl (n_ rfl (aU_ (ad := (Wk.pad v)) (us := Pc.cells x1) aG_ K_ rfl (fun v _ h => by exact h.1) (Pc.cells_len _) (ad_ Pc.cells_len hx1)) rfl (n_ rfl (l_ aA_ rfl rfl rfl bE_) rfl (n_ rfl (u_ 0 cc_ rfl rfl rfl) rfl (n_ rfl (d_ rfl) rfl (n_ rfl (aa_ A_ K_ rfl rfl (fun v _ h => ay_ (n := 10) Pc.cells_len (by decide) (by exact h.2.2.2.1) hx2) (by omega) (by first | omega | (simp; done))) rfl ?_)))))))))
    refine n_ rfl (aU_ (ad := (Wk.pad w)) (us := Pc.cells x2) aG_ K_ rfl (fun v _ h => by exact h.2.2.2.1) (Pc.cells_len _) (ad_ Pc.cells_len hx2)) rfl ?_
    refine cl_ rfl (nl_ (p := x1) (q := x2) rfl rfl) rfl fun r4 hr4 => ?_
    refine ag_ (ac_ (by kernel_rfl) (b_ rfl ?_))
    cases r4
    ·
     replace hr4 := of_decide_eq_false hr4
     refine v_ rfl (z_ (b_ rfl (c_ (a_ (d_ rfl) rfl (a_ (M_ rfl rfl rfl (af_ (by omega) (by omega))) rfl (a_ (g_ rfl) rfl (e_ (w_ rfl ?_))))))))
     exact Z_ ⟨i + 1, hlx1, by rw [List.take_add_one, hx1, List.take_add_one, hx2, he]; simp_all⟩ (by dsimp only; omega) ⟨rfl, rfl, rfl, trivial⟩ (m_ i_ i_) (fun _ _ h => h)
    ·
     replace hr4 := of_decide_eq_true hr4
     refine t_ rfl (h_ (c_ (a_ (g_ rfl) rfl (e_ (b_ rfl (F_ ?_))))))
     exact aw_ Tryz.results36 () (y_ rfl (by symm; rw [Bool.and_eq_false_iff]; left; apply decide_eq_false; intro e; rw [e] at hx1; rw [hx1] at hx2; simp_all)) I_ (fun _ _ _ => trivial)
 ·
  replace hr1 := ba_ hr1
  refine r_ rfl rfl rfl rfl (r_ rfl rfl rfl rfl (r_ rfl rfl rfl rfl (r_ rfl rfl rfl rfl (r_ rfl rfl rfl rfl (r_ rfl rfl rfl rfl (a_ (H_ rfl rfl) rfl (e_ (b_ rfl (t_ rfl ?_)))))))))
  refine h_ (c_ (a_ (g_ rfl) rfl (e_ (b_ rfl (F_ ?_)))))
  exact aw_ Tryz.results36 () (y_ rfl (by symm; rw [Bool.and_eq_false_iff]; first | (left; apply decide_eq_false; intro e; rw [e] at *; exact absurd rfl (by assumption)) | (right; simp_all; done) | (left; apply decide_eq_false; intro e; rw [e] at hr1; exact hr1 rfl))) I_ (fun _ _ _ => trivial)
end Go.Proofs.YtpdbbglpbngeiaaGreatDoor
namespace Go.Proofs.YtpdbbglpbngeiaaGreatDoor
open Go Go.Sx Go.Proofs
attribute [local irreducible] Code.wp wpList wpAnyH
open Go.Vs
theorem cY_.sm {p : List Pc} {bu : Int} {w : Wk} {e : Int} (h : cY_ p bu w e) (hs : ∀ x ∈ p, x.sm) : ∀ x ∈ w.ps, x.sm := by
  obtain ⟨c, _, h1, h2⟩ := h
  by_cases he : e = 0
  · rw [(h1 he).1]; exact hs
  · rw [h2 he]; intro x hx; simp [Wk.no] at hx
theorem ex_.run {w : Wk} {p : List Pc} {x : Wk} {new : List Fc} {e : Int} (h : ex_ w p 1073741824 x new e) (hc : bM_ p = 0) (hl : w.ps.length + p.length ≤ 16384) : cY_ (w.ps ++ p) 1073741824 x e ∧ new = if e = 0 then bD_ x.cl.facts w.cl.facts else [] := by
  unfold ex_ at h
  rw [if_neg (by simp [hc]), if_neg (by simp), if_neg (by omega)] at h
  exact h
end Go.Proofs.YtpdbbglpbngeiaaGreatDoor
namespace Go.Proofs.YtpdbbglpbngeiaaGreatDoor
open Go Go.Sx Go.Proofs
attribute [local irreducible] Code.wp wpList wpAnyH
open Go.Vs
theorem iK_ (p : List Pc) (pad : Option Addr) (pcap : Nat) (bu : Int) (hsm : ∀ x ∈ p, x.sm) (hc : p.length ≤ pcap) (hz : pad = none → pcap = 0) (hp : p.length ≤ 100) : Tri Tryz.prog 35 #[.slice pad (List.length p) pcap, .int .i64 bu] [] [az_ pad (List.flatMap Pc.cells p)] (fun y : {y : Wk × Int // cY_ p bu y.1 y.2} => .tuple #[y.1.1.val, .int .i64 y.1.2]) (fun _ => []) (fun y => y.1.1.row) := by
  refine T_ Tryz.func35 rfl rfl Tryz.ntmps35 rfl fun v0 => ?_
  refine h_ (c_ (ao_ bA_ rfl fun b1 => ?_))
  refine a_ (g_ rfl) rfl (e_ (b_ rfl (h_ (c_ (a_ (d_ rfl) rfl (a_ (d_ rfl) rfl (W_ (oH_ p pad pcap bu hsm (by omega)) rfl I_ (fun v _ h => by exact ⟨h.1, trivial⟩) rfl fun ⟨⟨c1, e1⟩, hA1⟩ => ?_)))))))
  dsimp only
  dsimp only at hA1
  refine a_ (d_ rfl) rfl (a_ (ae_ rfl rfl) rfl (a_ (ae_ rfl rfl) rfl (ao_ dQ_ rfl fun b2 => ?_)))
  refine Q_ 0 ab_ rfl rfl rfl rfl rfl rfl (a_ (g_ rfl) rfl (e_ (b_ rfl (h_ (h_ (c_ (a_ (d_ rfl) rfl (x_ (bN_ rfl rfl) rfl fun r1 hr1 => ?_))))))))
  refine e_ (b_ rfl ?_)
  cases r1
  · skip
    replace hr1 := bb_ hr1
    refine v_ rfl (z_ (b_ rfl (h_ ?_)))
    refine aR_ ((b2, .cells (Cl.cells c1).toArray 28 (0, 0)) :: []) (by kernel_rfl) ?_
    refine ah_ 5 [1, 3] (by kernel_rfl) (fun _ a b => ⟨Vw.sat.sub (a.perm i_), b⟩) (n_ rfl (d_ rfl) rfl (n_ rfl (Y_ 0 aZ_ ab_ rfl rfl rfl) rfl (ag_ (X_ 0 rfl (by kernel_rfl) (cF_ A_ K_ rfl fun b3 => ?_)))))
    refine aj_ i_ (e_ (w_ rfl (N_ (fun _ a b => ⟨Vw.sat.sub (a.perm (s_ i_)), b⟩) (X_ 2 rfl (by kernel_rfl) (aI_ (news := List.flatMap Pc.cells p) ff_ (do_ b3 47 10) rfl rfl hz hc E_ (by rw [bp_ Pc.cells 10 Pc.cells_len]) (fun v _ h => by exact h.2.2.1) (fun u hu => aK_ Pc.cells_one hu) (by simp only [maxLen]; ((try simp only [List.length_nil]); omega)) (by ((try simp only [List.length_nil]); omega)) rfl fun sv1 Hr1 hr1 => ?_)))))
    refine aj_ List.perm_append_comm ?_
    have hq1 : aQ_ 47 10 sv1 (List.length (([] : List Pc) ++ p)) (List.flatMap Pc.cells (([] : List Pc) ++ p)) Hr1 := by rw [List.length_append, List.flatMap_append]; exact hr1
    refine e_ (w_ rfl (N_ (fun _ a b => ⟨Vw.sat.sub (a.perm i_), b⟩) (X_ 4 rfl (by kernel_rfl) (bk_ hq1 (f_ S_) fun bad bcap hbad hcbad hmbad hzbad => ?_))))
    subst hbad
    refine a_ (ap_ db_ rfl rfl) rfl (e_ (w_ rfl (N_ (fun _ a b => ⟨Vw.sat.sub (a.perm i_), b.2⟩) (X_ 5 rfl (by kernel_rfl) (Q_ 1 U_ rfl rfl rfl rfl rfl rfl (e_ (w_ rfl (N_ (fun _ a b => ⟨Vw.sat.sub (a.perm i_), b.2⟩) (ah_ 0 [6] (by kernel_rfl) (fun _ a b => ⟨Vw.sat.sub (a.perm i_), b.2⟩) ?_)))))))))
    refine n_ rfl (g_ rfl) rfl (ag_ (ac_ (by kernel_rfl) (b_ rfl (F_ ?_))))
    exact cH_ ⟨((Wk.mk (([] : List Pc) ++ p) bad bcap c1), 0), ⟨c1, (by assumption : e1 = 0) ▸ hA1, fun _ => ⟨rfl, rfl, ⟨hcbad, hmbad, hzbad, hA1.ok⟩⟩, fun q => absurd rfl q⟩⟩ (fun aa v h1 h2 => de_ (us := Wk.cells (Wk.mk (([] : List Pc) ++ p) bad bcap c1)) 1 Tryz.results35 aF_ U_ rfl rfl rfl rfl aa v h1 h2) I_ (fun v _ h => by exact ⟨h.1, h.2.1, h.2.2.1, trivial⟩)
  · skip
    replace hr1 := ba_ hr1
    refine t_ rfl (h_ (c_ (a_ (ap_ db_ rfl rfl) rfl (a_ (d_ rfl) rfl (Q_ 1 U_ rfl rfl rfl rfl rfl rfl (a_ (g_ rfl) rfl (e_ (b_ rfl (F_ ?_)))))))))
    exact cH_ ⟨((Wk.mk [] none 0 (Cl.mk [] none 0 [] none 0)), e1), ⟨c1, hA1, fun q => absurd q (by assumption), fun _ => rfl⟩⟩ (fun aa v h1 h2 => de_ (us := Wk.cells (Wk.mk [] none 0 (Cl.mk [] none 0 [] none 0))) 1 Tryz.results35 aF_ U_ rfl rfl rfl rfl aa v h1 h2) I_ (fun v _ h => by exact ⟨.inl rfl, .inl rfl, .inl rfl, trivial⟩)
theorem mS_ (fa fb : List Fc) (faad fbad : Option Addr) (facap fbcap : Nat) (hla : fa.length ≤ 100000000) (hlb : fb.length ≤ 100000000) (hsb : Srt fb) : Tri Tryz.prog 85 #[.slice faad (List.length fa) facap, .slice fbad (List.length fb) fbcap] [] [az_ faad (List.flatMap Fc.cells fa), az_ fbad (List.flatMap Fc.cells fb)] (fun y : {y : Option Addr × Nat // ((bD_ fa fb)).length ≤ y.2 ∧ y.2 ≤ maxLen ∧ (y.1 = none → y.2 = 0)} => .slice y.1.1 ((bD_ fa fb)).length y.1.2) (fun _ => []) (fun y => [az_ y.1.1 (((bD_ fa fb)).flatMap Fc.cells)]) := by
  refine T_ Tryz.func85 rfl rfl Tryz.ntmps85 rfl fun v0 => ?_
  refine h_ (c_ (a_ (g_ rfl) rfl (e_ (b_ rfl (h_ (c_ (cF_ G_ B_ rfl fun b1 => ?_)))))))
  refine aj_ i_ (a_ (g_ rfl) rfl (e_ (b_ rfl (h_ (h_ (c_ (a_ (g_ rfl) rfl (e_ (b_ rfl ?_)))))))))
  refine R_ ?_
  refine aL_ (ι := {y : Nat × Value × Hp // y.1 ≤ List.length fa ∧ aQ_ 41 6 y.2.1 (List.length (bD_ (List.take y.1 fa) fb)) (List.flatMap Fc.cells (bD_ (List.take y.1 fa) fb)) y.2.2}) (fun y => [(0, .slice faad (List.length fa) facap), (1, .slice fbad (List.length fb) fbcap), (4, .slice none 0 0), (5, y.1.2.1), (6, .int .i64 (y.1.1 : Int))]) (fun y => (y.1.2.2)) (fun y => [az_ faad (List.flatMap Fc.cells fa), az_ fbad (List.flatMap Fc.cells fb)]) (fun y => List.length fa - y.1.1) ⟨((0 : Nat), (.slice (some ⟨b1, 0, none⟩) 0 0), [(b1, .cells #[] 41 (0, 0))]), by simp, (do_ b1 41 6)⟩ ⟨rfl, rfl, rfl, rfl, rfl, trivial⟩ aD_ (fun _ _ h => h) ?_
  rintro ⟨⟨i, sv_Rfc, H_Rfc⟩, hi_i, hr_Rfc⟩
  dsimp only at hi_i hr_Rfc ⊢
  have hxl := em_ (List.take i fa) fb
  refine h_ (h_ (c_ (a_ (d_ rfl) rfl (a_ (d_ rfl) rfl (a_ (am_ G_ rfl) rfl (x_ (av_ rfl rfl) rfl fun r1 hr1 => ?_))))))
  refine e_ (b_ rfl ?_)
  cases r1
  · skip
    replace hr1 := of_decide_eq_false hr1
    rw [List.take_of_length_le (by omega)] at hr_Rfc
    refine v_ rfl (au_ rfl (b_ rfl (h_ (c_ (a_ (d_ rfl) rfl (a_ (g_ rfl) rfl (e_ (b_ rfl (F_ ?_)))))))))
    refine bk_ hr_Rfc aD_ fun ad2 cp2 had2 hcad2 hmad2 hzad2 => ?_
    exact aw_ Tryz.results85 ⟨(ad2, cp2), hcad2, hmad2, hzad2⟩ (bU_ rfl had2) I_ (fun v _ h => ⟨h.1, trivial⟩)
  · skip
    replace hr1 := of_decide_eq_true hr1
    have hlx1 : i < List.length fa := by omega
    obtain ⟨x1, hx1⟩ : ∃ e0, fa[i]? = some e0 := ⟨_, List.getElem?_eq_getElem hlx1⟩
    have hmx1 : x1 ∈ fa := List.mem_of_getElem? hx1
    refine t_ rfl (z_ (b_ rfl (h_ (R_ (h_ (c_ (a_ (d_ rfl) rfl (a_ (d_ rfl) rfl (a_ (d_ rfl) rfl ?_)))))))))
    refine a_ (aa_ G_ B_ rfl rfl (fun v _ h => ay_ (n := 6) Fc.cells_len (by decide) (by exact h.1) hx1) (by omega) (by first | omega | (simp; done))) rfl (a_ (aU_ (ad := faad) (us := Fc.cells x1) ai_ B_ rfl (fun v _ h => by exact h.1) (Fc.cells_len _) (ad_ Fc.cells_len hx1)) rfl (as_ (jj_ fb fbad fbcap x1 (by omega) hsb) rfl I_ (fun v _ h => by exact ⟨h.2.1, trivial⟩) rfl fun r2 hr2 => ?_))
    refine aj_ ht_ (a_ (ce_ rfl) rfl (e_ (b_ rfl ?_)))
    cases r2
    · skip
      replace hr2 := of_decide_eq_false hr2
      refine t_ rfl (c_ (a_ (d_ rfl) rfl (a_ (d_ rfl) rfl (a_ (d_ rfl) rfl (a_ (aa_ G_ B_ rfl rfl (fun v _ h => ay_ (n := 6) Fc.cells_len (by decide) (by exact h.1) hx1) (by omega) (by first | omega | (simp; done))) rfl (a_ (aU_ (ad := faad) (us := Fc.cells x1) ai_ B_ rfl (fun v _ h => by exact h.1) (Fc.cells_len _) (ad_ Fc.cells_len hx1)) rfl (aJ_ G_ B_ ak_ rfl rfl rfl rfl rfl rfl fun b2 => ?_)))))))
      refine bi_ (news := List.flatMap Fc.cells [x1]) ca_ hr_Rfc rfl rfl S_ rfl (cy_ 0 rfl) (fun u hu => aK_ Fc.cells_one hu) (by simp only [maxLen]; (first | omega | (have := em_ (List.take i fa) fb; rw [List.length_take] at this; omega) | ((try simp only [List.length_append, List.length_cons, List.length_nil]); omega))) (by (first | omega | (have := em_ (List.take i fa) fb; rw [List.length_take] at this; omega) | ((try simp only [List.length_append, List.length_cons, List.length_nil]); omega))) rfl fun sv1 Hr1 hr1 => ?_
      refine aj_ List.perm_append_comm ?_
      have hq1 : aQ_ 41 6 sv1 (List.length ((bD_ (List.take i fa) fb) ++ [x1])) (List.flatMap Fc.cells ((bD_ (List.take i fa) fb) ++ [x1])) Hr1 := by rw [List.length_append, List.flatMap_append]; exact hr1
      refine a_ (g_ rfl) rfl (e_ (b_ rfl (c_ (a_ (d_ rfl) rfl (a_ (M_ rfl rfl rfl (af_ (by omega) (by omega))) rfl (a_ (g_ rfl) rfl (e_ (w_ rfl ?_))))))))
      exact Z_ ⟨(i + 1, sv1, Hr1), hlx1, (by rw [eU_ hx1, if_neg (by assumption)]; exact hq1)⟩ (by dsimp only; omega) ⟨rfl, rfl, rfl, rfl, rfl, trivial⟩ S_ (fun _ _ h => h)
    · skip
      replace hr2 := of_decide_eq_true hr2
      refine v_ rfl (z_ (b_ rfl (c_ (a_ (d_ rfl) rfl (a_ (M_ rfl rfl rfl (af_ (by omega) (by omega))) rfl (a_ (g_ rfl) rfl (e_ (w_ rfl ?_))))))))
      exact Z_ ⟨(i + 1, sv_Rfc, H_Rfc), hlx1, (by rw [eU_ hx1, if_pos (by assumption), List.append_nil]; exact hr_Rfc)⟩ (by dsimp only; omega) ⟨rfl, rfl, rfl, rfl, rfl, trivial⟩ aD_ (fun _ _ h => h)
end Go.Proofs.YtpdbbglpbngeiaaGreatDoor
namespace Go.Proofs.YtpdbbglpbngeiaaGreatDoor
open Go Go.Sx Go.Proofs
attribute [local irreducible] Code.wp wpList wpAnyH
open Go.Vs
theorem gs_ {l m : List Int} : ∀ {i : Nat} {p : List Pc}, (∀ j : Nat, i ≤ j → j < i + p.length → ((j : Int) ∈ l ↔ (j : Int) ∈ m)) → cp_ l i p = cp_ m i p
  | _, [], _ => rfl
  | i, x :: r, h => by
    have e := h i (Nat.le_refl _) (by simp)
    have k : cp_ l (i + 1) r = cp_ m (i + 1) r := gs_ fun j h1 h2 => h j (by omega) (by rw [List.length_cons]; omega)
    rw [cp_, cp_, k]
    by_cases q : (i : Int) ∈ l
    · rw [if_pos q, if_pos (e.1 q)]
    · rw [if_neg q, if_neg (fun z => q (e.2 z))]
structure Scan (wh : List Int) (m i n : Nat) : Prop where
  le : n ≤ wh.length
  ok : jG_ i (wh.take n)
  far : jG_ m wh → ∀ (k : Nat) (x : Int), n ≤ k → wh[k]? = some x → (i : Int) ≤ x
theorem Scan.start (wh : List Int) (m : Nat) : Scan wh m 0 0 := ⟨Nat.zero_le _, by simp [jG_], fun h k x _ hx => (h.1 x (List.mem_of_getElem? hx)).1⟩
theorem Scan.notin {wh : List Int} {m i n : Nat} (h : Scan wh m i n) : (i : Int) ∉ wh.take n := fun q => by have := (h.ok.1 _ q).2; omega
theorem pn_ {wh : List Int} (h : wh.Pairwise (· < ·)) {j k : Nat} {x y : Int} (hj : wh[j]? = some x) (hk : wh[k]? = some y) (hl : j < k) : x < y := by
  obtain ⟨h1, rfl⟩ := List.getElem?_eq_some_iff.1 hj
  obtain ⟨h2, rfl⟩ := List.getElem?_eq_some_iff.1 hk
  exact List.pairwise_iff_getElem.1 h j k h1 h2 hl
theorem Scan.hit {wh : List Int} {m i n : Nat} (h : Scan wh m i n) (hx : wh[n]? = some (i : Int)) : Scan wh m (i + 1) (n + 1) := by
  have hl := (List.getElem?_eq_some_iff.1 hx).1
  refine ⟨hl, ?_, fun ho k x hk hkx => ?_⟩
  · rw [List.take_add_one, hx, Option.toList_some]
    refine ⟨fun y hy => ?_, List.pairwise_append.2 ⟨h.ok.2, by simp, fun y hy z hz => ?_⟩⟩
    · rcases List.mem_append.1 hy with hy | hy
      · have := h.ok.1 y hy; omega
      · simp at hy; omega
    · simp at hz; have := h.ok.1 y hy; omega
  · have := pn_ ho.2 hx hkx (by omega); omega
theorem Scan.miss {wh : List Int} {m i n : Nat} (h : Scan wh m i n) (hx : ∀ y, wh[n]? = some y → y ≠ (i : Int)) : Scan wh m (i + 1) n := by
  refine ⟨h.le, ⟨fun y hy => ?_, h.ok.2⟩, fun ho k x hk hkx => ?_⟩
  · have := h.ok.1 y hy; omega
  · have h1 := h.far ho k x hk hkx
    rcases Nat.lt_or_ge n k with hnk | hnk
    · obtain ⟨y, hy⟩ : ∃ y, wh[n]? = some y := ⟨_, List.getElem?_eq_getElem (by have := (List.getElem?_eq_some_iff.1 hkx).1; omega)⟩
      have h2 := h.far ho n y (Nat.le_refl _) hy
      have := pn_ ho.2 hy hkx hnk; omega
    · obtain rfl : k = n := by omega
      have := hx x hkx; omega
theorem Scan.keep_hit {wh : List Int} {m i n : Nat} {p : List Pc} {x : Pc} (h : Scan wh m i n) (hw : wh[n]? = some (i : Int)) (hx : p[i]? = some x) : cp_ (wh.take (n + 1)) 0 (p.take (i + 1)) = cp_ (wh.take n) 0 (p.take i) := by
  rw [ga_ hx, List.take_add_one, hw, Option.toList_some, if_pos (by simp), List.append_nil]
  refine gs_ fun j _ h2 => ?_
  rw [List.length_take] at h2
  simp only [List.mem_append, List.mem_singleton]
  exact ⟨fun q => q.resolve_right (by omega), .inl⟩
theorem Scan.keep_miss {wh : List Int} {m i n : Nat} {p : List Pc} {x : Pc} (h : Scan wh m i n) (hx : p[i]? = some x) : cp_ (wh.take n) 0 (p.take (i + 1)) = cp_ (wh.take n) 0 (p.take i) ++ [x] := by
  rw [ga_ hx, if_neg h.notin]
theorem Scan.all {wh : List Int} {m n : Nat} (h : Scan wh m m n) (hn : n = wh.length) : jG_ m wh := by
  have := h.ok
  rwa [hn, List.take_length] at this
theorem Scan.bad {wh : List Int} {m n : Nat} (h : Scan wh m m n) (hn : n < wh.length) : ¬ jG_ m wh := fun q => by
  have h1 := h.far q n _ (Nat.le_refl _) (List.getElem?_eq_getElem hn)
  have h2 := (q.1 _ (List.getElem_mem hn)).2
  omega
set_option maxHeartbeats 1000000 in
theorem rAdd_c (w : Wk) (p : List Pc) (pad : Option Addr) (pcap : Nat) (bu : Int) (hsw : ∀ x ∈ w.ps, x.sm) (hw1 : w.ps.length ≤ w.pcap) (hw2 : w.pad = none → w.pcap = 0) (hw4 : w.cl.facts.length ≤ 100000000) (hws : Srt w.cl.facts) (hsm : ∀ x ∈ p, x.sm) (hp1 : p.length ≤ pcap) (hp2 : pad = none → pcap = 0) (hp3 : w.ps.length + p.length ≤ 100) : Tri Tryz.prog 40 #[Wk.val w, .slice pad (List.length p) pcap, .int .i64 bu] [] [az_ (Wk.pad w) (List.flatMap Pc.cells (Wk.ps w)), az_ (Cl.aad (Wk.cl w)) (List.flatMap aO_ (Cl.atoms (Wk.cl w))), az_ (Cl.fad (Wk.cl w)) (List.flatMap Fc.cells (Cl.facts (Wk.cl w))), az_ pad (List.flatMap Pc.cells p)] (fun y : {y : Wk × List Fc × Option Addr × Nat × Int // ex_ w p bu y.1 y.2.1 y.2.2.2.2 ∧ (y.2.1.length ≤ y.2.2.2.1 ∧ y.2.2.2.1 ≤ maxLen ∧ (y.2.2.1 = none → y.2.2.2.1 = 0))} => .tuple #[y.1.1.val, .slice y.1.2.2.1 y.1.2.1.length y.1.2.2.2.1, .int .i64 y.1.2.2.2.2]) (fun _ => []) (fun y => y.1.1.row ++ [az_ y.1.2.2.1 (y.1.2.1.flatMap Fc.cells)]) := by
 refine T_ Tryz.func40 rfl rfl Tryz.ntmps40 rfl fun v0 => ?_
 refine h_ (c_ (bs_ rfl rfl fun b1 => ?_))
 refine ao_ bA_ rfl fun b2 => ?_
 refine a_ (g_ rfl) rfl (a_ (g_ rfl) rfl (e_ (b_ rfl (h_ (c_ (a_ (d_ rfl) rfl (W_ (ls_ p pad pcap (by omega) hsm) rfl I_ (fun v _ h => by exact ⟨h.2.2.2.1, trivial⟩) rfl fun _ => ?_)))))))
 refine a_ (g_ rfl) rfl (e_ (b_ rfl (h_ (h_ (c_ (a_ (d_ rfl) rfl (x_ (bN_ rfl rfl) rfl fun r1 hr1 => ?_)))))))
 refine e_ (b_ rfl ?_)
 cases r1
 ·
  replace hr1 := bb_ hr1
  have hchk := hr1
  refine v_ rfl (z_ (b_ rfl (h_ (h_ (c_ (a_ (d_ rfl) rfl (x_ (av_ rfl rfl) rfl fun r2 hr2 => ?_)))))))
  refine a_ (d_ rfl) rfl ?_
  cases r2
  ·
   replace hr2 := of_decide_eq_false hr2
   refine p_ rfl rfl (a_ (d_ rfl) rfl (p_ rfl rfl (x_ (bR_ rfl rfl) rfl fun r3 hr3 => ?_)))
   refine a_ (C_ rfl rfl) rfl (e_ (b_ rfl ?_))
   cases r3
   ·
    replace hr3 := of_decide_eq_false hr3
    refine v_ rfl (z_ (b_ rfl (h_ (h_ (c_ (a_ (l_ aA_ rfl rfl rfl bE_) rfl (a_ (u_ 1 cc_ rfl rfl rfl) rfl (a_ (am_ A_ rfl) rfl (a_ (d_ rfl) rfl ?_)))))))))
    refine a_ (am_ A_ rfl) rfl (a_ (M_ rfl rfl rfl (af_ (by omega) (by omega))) rfl (x_ (bR_ rfl rfl) rfl fun r4 hr4 => ?_))
    refine e_ (b_ rfl ?_)
    cases r4
    ·
     replace hr4 := of_decide_eq_false hr4
     refine v_ rfl (z_ (b_ rfl (h_ (c_ (cF_ A_ K_ rfl fun b3 => ?_)))))
     refine aj_ i_ (a_ (l_ aA_ rfl rfl rfl bE_) rfl (a_ (u_ 2 cc_ rfl rfl rfl) rfl (aI_ (news := List.flatMap Pc.cells (Wk.ps w)) ff_ (do_ b3 47 10) rfl rfl hw2 hw1 E_ (by rw [bp_ Pc.cells 10 Pc.cells_len]) (fun v _ h => by exact h.1) (fun u hu => aK_ Pc.cells_one hu) (by simp only [maxLen]; (first | omega | ((try simp only [List.length_append, List.length_cons, List.length_nil]); omega))) (by (first | omega | ((try simp only [List.length_append, List.length_cons, List.length_nil]); omega))) rfl fun sv1 Hr1 hr1 => ?_)))
     refine aj_ List.perm_append_comm ?_
     have hq1 : aQ_ 47 10 sv1 (List.length (([] : List Pc) ++ (Wk.ps w))) (List.flatMap Pc.cells (([] : List Pc) ++ (Wk.ps w))) Hr1 := by rw [List.length_append, List.flatMap_append]; exact hr1
     refine a_ (d_ rfl) rfl (aI_ (news := List.flatMap Pc.cells p) ff_ hq1 rfl rfl hp2 hp1 (f_ S_) (by rw [bp_ Pc.cells 10 Pc.cells_len]) (fun v _ h => by exact h.2.2.2.1) (fun u hu => aK_ Pc.cells_one hu) (by simp only [maxLen]; (first | omega | ((try simp only [List.length_append, List.length_cons, List.length_nil]); omega))) (by (first | omega | ((try simp only [List.length_append, List.length_cons, List.length_nil]); omega))) rfl fun sv2 Hr2 hr2 => ?_)
     refine aj_ List.perm_append_comm ?_
     have hq2 : aQ_ 47 10 sv2 (List.length ((([] : List Pc) ++ (Wk.ps w)) ++ p)) (List.flatMap Pc.cells ((([] : List Pc) ++ (Wk.ps w)) ++ p)) Hr2 := by rw [List.length_append, List.flatMap_append]; exact hr2
     refine a_ (d_ rfl) rfl (bk_ hq2 (f_ S_) fun tad tcp htad hctad hmtad hztad => ?_)
     subst htad
     refine W_ (iK_ ((([] : List Pc) ++ (Wk.ps w)) ++ p) tad tcp bu (fun y hy => by simp only [List.nil_append, List.mem_append] at hy; rcases hy with hy | hy; exact hsw y hy; exact hsm y hy) hctad hztad (by simp only [List.length_append, List.length_nil]; omega)) rfl I_ (fun v _ h => by exact ⟨h.1, trivial⟩) rfl fun ⟨⟨x1, e1⟩, hS1⟩ => ?_
     dsimp only
     dsimp only at hS1
     have hlx1 := hS1.len
     rw [List.nil_append] at hS1
     rw [List.nil_append, List.length_append] at hlx1
     refine a_ (d_ rfl) rfl (a_ (ae_ rfl rfl) rfl (a_ (ae_ rfl rfl) rfl (ao_ bA_ rfl fun b4 => ?_)))
     refine Q_ 0 U_ rfl rfl rfl rfl rfl rfl (a_ (g_ rfl) rfl (e_ (b_ rfl (h_ (h_ (c_ (a_ (d_ rfl) rfl (x_ (bN_ rfl rfl) rfl fun r5 hr5 => ?_))))))))
     refine e_ (b_ rfl ?_)
     cases r5
     ·
      replace hr5 := bb_ hr5
      have he1 : e1 = 0 := hr5
      refine v_ rfl (z_ (b_ rfl (h_ ?_)))
      refine aR_ ((b4, .cells #[.slice (Wk.pad x1) (List.length (Wk.ps x1)) (Wk.pcap x1), .slice (Cl.aad (Wk.cl x1)) (List.length (Cl.atoms (Wk.cl x1))) (Cl.acap (Wk.cl x1)), .slice (Cl.fad (Wk.cl x1)) (List.length (Cl.facts (Wk.cl x1))) (Cl.fcap (Wk.cl x1))] 50 (0, 0)) :: ((b1, .cells #[.slice (Wk.pad w) (List.length (Wk.ps w)) (Wk.pcap w), .slice (Cl.aad (Wk.cl w)) (List.length (Cl.atoms (Wk.cl w))) (Cl.acap (Wk.cl w)), .slice (Cl.fad (Wk.cl w)) (List.length (Cl.facts (Wk.cl w))) (Cl.fcap (Wk.cl w))] 50 (0, 0)) :: [])) (by kernel_rfl) ?_
      refine ah_ 4 [0, 1, 2, 3, 4, 5, 6] (by kernel_rfl) (fun _ a b => ⟨Vw.sat.sub (a.perm (m_ i_ (f_ i_))), b⟩) (n_ rfl (Y_ 0 aF_ U_ rfl rfl rfl) rfl (n_ rfl (l_ aA_ rfl rfl rfl ab_) rfl (n_ rfl (l_ aB_ rfl rfl rfl bl_) rfl (n_ rfl (u_ 0 bt_ rfl rfl rfl) rfl (n_ rfl (l_ aA_ rfl rfl rfl ab_) rfl (n_ rfl (l_ aB_ rfl rfl rfl bl_) rfl (n_ rfl (u_ 1 bt_ rfl rfl rfl) rfl (ag_ (X_ 7 rfl (by kernel_rfl) ?_)))))))))
      refine W_ (mS_ (Cl.facts (Wk.cl x1)) (Cl.facts (Wk.cl w)) (Cl.fad (Wk.cl x1)) (Cl.fad (Wk.cl w)) (Cl.fcap (Wk.cl x1)) (Cl.fcap (Wk.cl w)) (by omega) (by omega) hws) rfl I_ (fun v _ h => by exact ⟨h.2.2.1, h.2.2.2.2.2.2.1, trivial⟩) rfl fun ⟨⟨nad, ncap⟩, hn1, hn2, hn3⟩ => ?_
      dsimp only
      dsimp only at hn1 hn2 hn3
      refine e_ (w_ rfl (N_ (fun _ a b => ⟨Vw.sat.sub (a.perm (m_ i_ (f_ i_))), b.2⟩) (X_ 8 rfl (by kernel_rfl) (Q_ 1 U_ rfl rfl rfl rfl rfl rfl (e_ (w_ rfl (N_ (fun _ a b => ⟨Vw.sat.sub (a.perm (m_ i_ (f_ i_))), b.2⟩) (ah_ 0 [9, 10] (by kernel_rfl) (fun _ a b => ⟨Vw.sat.sub (a.perm (m_ i_ (f_ i_))), b.2⟩) (n_ rfl (g_ rfl) rfl ?_)))))))))
      refine n_ rfl (g_ rfl) rfl (ag_ (ac_ (by kernel_rfl) (b_ rfl (F_ ?_))))
      exact cH_ ⟨(x1, (bD_ (Cl.facts (Wk.cl x1)) (Cl.facts (Wk.cl w))), nad, ncap, 0), by unfold ex_; rw [if_neg (fun q => q hchk), if_neg (by omega), if_neg (by omega)]; rw [if_pos rfl]; exact ⟨he1 ▸ hS1, rfl⟩, ⟨hn1, hn2, hn3⟩⟩ (fun aa v h1 h2 => cs_ (us := Wk.cells x1) 1 iH_ aF_ U_ rfl rfl rfl rfl rfl aa v h1 h2) I_ (fun v _ h => by exact ⟨h.2.1, h.2.2.1, h.2.2.2.1, h.1, trivial⟩)
     ·
      replace hr5 := ba_ hr5
      refine t_ rfl (h_ (c_ (a_ (ap_ db_ rfl rfl) rfl (a_ (d_ rfl) rfl (Q_ 1 U_ rfl rfl rfl rfl rfl rfl (a_ (g_ rfl) rfl (a_ (g_ rfl) rfl (e_ (b_ rfl ?_)))))))))
      refine F_ ?_
      exact cH_ ⟨((Wk.mk [] none 0 (Cl.mk [] none 0 [] none 0)), ([] : List Fc), none, 0, e1), by unfold ex_; rw [if_neg (fun q => q hchk), if_neg (by omega), if_neg (by omega)]; rw [if_neg (by assumption)]; exact ⟨hn_ hS1 (by assumption), rfl⟩, ⟨Nat.le_refl _, by simp, fun _ => rfl⟩⟩ (fun aa v h1 h2 => cs_ (us := Wk.cells (Wk.mk [] none 0 (Cl.mk [] none 0 [] none 0))) 1 iH_ aF_ U_ rfl rfl rfl rfl rfl aa v h1 h2) I_ (fun v _ h => by exact ⟨.inl rfl, .inl rfl, .inl rfl, .inl rfl, trivial⟩)
    ·
     replace hr4 := of_decide_eq_true hr4
     refine t_ rfl (h_ (c_ (a_ (ap_ db_ rfl rfl) rfl (Q_ 0 U_ rfl rfl rfl rfl rfl rfl (a_ (g_ rfl) rfl (a_ (g_ rfl) rfl (e_ (b_ rfl (F_ ?_)))))))))
     exact cH_ ⟨((Wk.mk [] none 0 (Cl.mk [] none 0 [] none 0)), ([] : List Fc), none, 0, 2), by unfold ex_; rw [if_neg (fun q => q hchk), if_neg (by omega), if_pos (by omega)]; exact ⟨rfl, rfl, rfl⟩, ⟨Nat.le_refl _, by simp, fun _ => rfl⟩⟩ (fun aa v h1 h2 => cs_ (us := Wk.cells (Wk.mk [] none 0 (Cl.mk [] none 0 [] none 0))) 0 iH_ aF_ U_ rfl rfl rfl rfl rfl aa v h1 h2) I_ (fun v _ h => by exact ⟨.inl rfl, .inl rfl, .inl rfl, .inl rfl, trivial⟩)
   ·
    replace hr3 := of_decide_eq_true hr3
    refine t_ rfl (h_ (c_ (a_ (ap_ db_ rfl rfl) rfl (Q_ 0 U_ rfl rfl rfl rfl rfl rfl (a_ (g_ rfl) rfl (a_ (g_ rfl) rfl (e_ (b_ rfl (F_ ?_)))))))))
    exact cH_ ⟨((Wk.mk [] none 0 (Cl.mk [] none 0 [] none 0)), ([] : List Fc), none, 0, 1), by unfold ex_; rw [if_neg (fun q => q hchk), if_pos (by omega)]; exact ⟨rfl, rfl, rfl⟩, ⟨Nat.le_refl _, by simp, fun _ => rfl⟩⟩ (fun aa v h1 h2 => cs_ (us := Wk.cells (Wk.mk [] none 0 (Cl.mk [] none 0 [] none 0))) 0 iH_ aF_ U_ rfl rfl rfl rfl rfl aa v h1 h2) I_ (fun v _ h => by exact ⟨.inl rfl, .inl rfl, .inl rfl, .inl rfl, trivial⟩)
  ·
   replace hr2 := of_decide_eq_true hr2
   refine r_ rfl rfl rfl rfl (r_ rfl rfl rfl rfl (a_ (H_ rfl rfl) rfl (e_ (b_ rfl (t_ rfl (h_ (c_ (a_ (ap_ db_ rfl rfl) rfl (Q_ 0 U_ rfl rfl rfl rfl rfl rfl ?_)))))))))
   refine a_ (g_ rfl) rfl (a_ (g_ rfl) rfl (e_ (b_ rfl (F_ ?_))))
   exact cH_ ⟨((Wk.mk [] none 0 (Cl.mk [] none 0 [] none 0)), ([] : List Fc), none, 0, 1), by unfold ex_; rw [if_neg (fun q => q hchk), if_pos (by omega)]; exact ⟨rfl, rfl, rfl⟩, ⟨Nat.le_refl _, by simp, fun _ => rfl⟩⟩ (fun aa v h1 h2 => cs_ (us := Wk.cells (Wk.mk [] none 0 (Cl.mk [] none 0 [] none 0))) 0 iH_ aF_ U_ rfl rfl rfl rfl rfl aa v h1 h2) I_ (fun v _ h => by exact ⟨.inl rfl, .inl rfl, .inl rfl, .inl rfl, trivial⟩)
 ·
  replace hr1 := ba_ hr1
  refine t_ rfl (h_ (c_ (a_ (ap_ db_ rfl rfl) rfl (a_ (d_ rfl) rfl (Q_ 0 U_ rfl rfl rfl rfl rfl rfl (a_ (g_ rfl) rfl (a_ (g_ rfl) rfl (e_ (b_ rfl ?_)))))))))
  refine F_ ?_
  exact cH_ ⟨((Wk.mk [] none 0 (Cl.mk [] none 0 [] none 0)), ([] : List Fc), none, 0, (bM_ p)), by unfold ex_; rw [if_pos (by assumption)]; exact ⟨rfl, rfl, rfl⟩, ⟨Nat.le_refl _, by simp, fun _ => rfl⟩⟩ (fun aa v h1 h2 => cs_ (us := Wk.cells (Wk.mk [] none 0 (Cl.mk [] none 0 [] none 0))) 0 iH_ aF_ U_ rfl rfl rfl rfl rfl aa v h1 h2) I_ (fun v _ h => by exact ⟨.inl rfl, .inl rfl, .inl rfl, .inl rfl, trivial⟩)
set_option maxHeartbeats 1000000 in
theorem nu_ (w : Wk) (wh : List Int) (had : Option Addr) (hcap : Nat) (bu : Int) (hsw : ∀ x ∈ w.ps, x.sm) (hw1 : w.ps.length ≤ w.pcap) (hw2 : w.pad = none → w.pcap = 0) (hw4 : w.cl.facts.length ≤ 100000000) (hp3 : w.ps.length ≤ 100) (hwl : wh.length ≤ 100000000) : Tri Tryz.prog 42 #[Wk.val w, .slice had (List.length wh) hcap, .int .i64 bu] [] [az_ (Wk.pad w) (List.flatMap Pc.cells (Wk.ps w)), az_ (Cl.aad (Wk.cl w)) (List.flatMap aO_ (Cl.atoms (Wk.cl w))), az_ (Cl.fad (Wk.cl w)) (List.flatMap Fc.cells (Cl.facts (Wk.cl w))), az_ had (List.flatMap gZ_ wh)] (fun y : {y : Wk × List Fc × Option Addr × Nat × Int // eH_ w wh bu y.1 y.2.1 y.2.2.2.2 ∧ (y.2.1.length ≤ y.2.2.2.1 ∧ y.2.2.2.1 ≤ maxLen ∧ (y.2.2.1 = none → y.2.2.2.1 = 0))} => .tuple #[y.1.1.val, .slice y.1.2.2.1 y.1.2.1.length y.1.2.2.2.1, .int .i64 y.1.2.2.2.2]) (fun _ => []) (fun y => y.1.1.row ++ [az_ y.1.2.2.1 (y.1.2.1.flatMap Fc.cells)]) := by
 refine T_ Tryz.func42 rfl rfl Tryz.ntmps42 rfl fun v0 => ?_
 refine h_ (c_ (bs_ rfl rfl fun b1 => ?_))
 refine ao_ bA_ rfl fun b2 => ?_
 refine a_ (g_ rfl) rfl (a_ (g_ rfl) rfl (e_ (b_ rfl (h_ (c_ (cF_ A_ K_ rfl fun b3 => ?_))))))
 refine aj_ i_ (a_ (g_ rfl) rfl (e_ (b_ rfl (aj_ (bu_ (s_ i_) (df_ bj_)) (h_ (c_ (a_ (g_ rfl) rfl (e_ (b_ rfl ?_)))))))))
 refine h_ (h_ (c_ (a_ (g_ rfl) rfl (e_ (b_ rfl (R_ ?_))))))
 refine aL_ (ι := {y : Nat × Nat × Value × Hp // y.1 ≤ List.length (Wk.ps w) ∧ Scan wh (List.length (Wk.ps w)) y.1 y.2.1 ∧ aQ_ 47 10 y.2.2.1 (List.length (cp_ (List.take y.2.1 wh) 0 (List.take y.1 (Wk.ps w)))) (List.flatMap Pc.cells (cp_ (List.take y.2.1 wh) 0 (List.take y.1 (Wk.ps w)))) y.2.2.2}) (fun y => [(1, .slice had (List.length wh) hcap), (2, .int .i64 bu), (3, zp_ b1 0), (6, zp_ b2 0), (7, .slice none 0 0), (8, .int .i64 0), (9, y.1.2.2.1), (10, .int .i64 (y.1.2.1 : Int)), (11, .int .i64 (y.1.1 : Int))]) (fun y => ((b2, .cells #[.slice none 0 0, .slice none 0 0, .slice none 0 0] 50 (0, 0)) :: ((b1, .cells #[.slice (Wk.pad w) (List.length (Wk.ps w)) (Wk.pcap w), .slice (Cl.aad (Wk.cl w)) (List.length (Cl.atoms (Wk.cl w))) (Cl.acap (Wk.cl w)), .slice (Cl.fad (Wk.cl w)) (List.length (Cl.facts (Wk.cl w))) (Cl.fcap (Wk.cl w))] 50 (0, 0)) :: y.1.2.2.2))) (fun y => [az_ (Wk.pad w) (List.flatMap Pc.cells (Wk.ps w)), az_ (Cl.aad (Wk.cl w)) (List.flatMap aO_ (Cl.atoms (Wk.cl w))), az_ (Cl.fad (Wk.cl w)) (List.flatMap Fc.cells (Cl.facts (Wk.cl w))), az_ had (List.flatMap gZ_ wh)]) (fun y => List.length (Wk.ps w) - y.1.1) ⟨((0 : Nat), (0 : Nat), (.slice (some ⟨b3, 0, none⟩) 0 0), [(b3, .cells #[] 47 (0, 0))]), Nat.zero_le _, Scan.start _ _, (do_ b3 47 10)⟩ ⟨rfl, rfl, rfl, rfl, rfl, rfl, rfl, rfl, rfl, trivial⟩ (m_ i_ (m_ i_ aD_)) (fun _ _ h => h) ?_
 rintro ⟨⟨i, n, sv_Rpc, H_Rpc⟩, hi, hsc, hr_Rpc⟩
 dsimp only at hi hsc hr_Rpc ⊢
 have hkl := eY_ (List.take n wh) 0 (List.take i (Wk.ps w))
 rw [List.length_take] at hkl
 have hsl := hsc.le
 refine h_ (h_ (c_ (a_ (d_ rfl) rfl (a_ (l_ aA_ rfl rfl rfl bE_) rfl (a_ (u_ 1 cc_ rfl rfl rfl) rfl (a_ (am_ A_ rfl) rfl (x_ (av_ rfl rfl) rfl fun r1 hr1 => ?_)))))))
 refine e_ (b_ rfl ?_)
 cases r1
 ·
  replace hr1 := of_decide_eq_false hr1
  have ein : i = List.length (Wk.ps w) := (by omega)
  rw [ein] at hsc
  have hsl := hsc.le
  rw [ein, List.take_length] at hr_Rpc
  refine v_ rfl (au_ rfl (b_ rfl (h_ (h_ (c_ (a_ (d_ rfl) rfl (a_ (d_ rfl) rfl (a_ (am_ bT_ rfl) rfl (x_ (av_ rfl rfl) rfl fun r2 hr2 => ?_)))))))))
  refine a_ (d_ rfl) rfl ?_
  cases r2
  ·
   replace hr2 := of_decide_eq_false hr2
   refine p_ rfl rfl (a_ (d_ rfl) rfl (p_ rfl rfl (x_ (av_ rfl rfl) rfl fun r3 hr3 => ?_)))
   refine a_ (C_ rfl rfl) rfl (a_ (d_ rfl) rfl ?_)
   cases r3
   ·
    replace hr3 := of_decide_eq_false hr3
    refine p_ rfl rfl (a_ (d_ rfl) rfl (p_ rfl rfl (x_ (bR_ rfl rfl) rfl fun r4 hr4 => ?_)))
    refine a_ (C_ rfl rfl) rfl (e_ (b_ rfl ?_))
    cases r4
    ·
     replace hr4 := of_decide_eq_false hr4
     refine v_ rfl (z_ (b_ rfl (h_ ?_)))
     have hn9 : n = List.length wh := (by omega)
     have hok := hsc.all hn9
     rw [hn9, List.take_length] at hr_Rpc
     have hkl := eY_ wh 0 (Wk.ps w)
     refine c_ (a_ (d_ rfl) rfl (a_ (d_ rfl) rfl (bk_ hr_Rpc (f_ S_) fun tad tcp htad hctad hmtad hztad => ?_)))
     subst htad
     refine W_ (iK_ (cp_ wh 0 (Wk.ps w)) tad tcp bu (fun y hy => hsw y (gI_ _ _ _ y hy)) hctad hztad (by omega)) rfl I_ (fun v _ h => by exact ⟨h.1, trivial⟩) rfl fun ⟨⟨x1, e1⟩, hS1⟩ => ?_
     dsimp only
     dsimp only at hS1
     have hlx1 := hS1.len
     refine a_ (d_ rfl) rfl (a_ (ae_ rfl rfl) rfl (a_ (ae_ rfl rfl) rfl (ao_ bA_ rfl fun b4 => ?_)))
     refine Q_ 0 U_ rfl rfl rfl rfl rfl rfl (a_ (g_ rfl) rfl (e_ (b_ rfl (h_ (h_ (c_ (a_ (d_ rfl) rfl (x_ (bN_ rfl rfl) rfl fun r5 hr5 => ?_))))))))
     refine e_ (b_ rfl ?_)
     cases r5
     ·
      replace hr5 := bb_ hr5
      have he1 : e1 = 0 := hr5
      refine v_ rfl (z_ (b_ rfl (h_ ?_)))
      refine aR_ ((b4, .cells #[.slice (Wk.pad x1) (List.length (Wk.ps x1)) (Wk.pcap x1), .slice (Cl.aad (Wk.cl x1)) (List.length (Cl.atoms (Wk.cl x1))) (Cl.acap (Wk.cl x1)), .slice (Cl.fad (Wk.cl x1)) (List.length (Cl.facts (Wk.cl x1))) (Cl.fcap (Wk.cl x1))] 50 (0, 0)) :: ((b1, .cells #[.slice (Wk.pad w) (List.length (Wk.ps w)) (Wk.pcap w), .slice (Cl.aad (Wk.cl w)) (List.length (Cl.atoms (Wk.cl w))) (Cl.acap (Wk.cl w)), .slice (Cl.fad (Wk.cl w)) (List.length (Cl.facts (Wk.cl w))) (Cl.fcap (Wk.cl w))] 50 (0, 0)) :: [])) (by kernel_rfl) ?_
      refine ah_ 4 [0, 1, 2, 3, 4, 5, 6] (by kernel_rfl) (fun _ a b => ⟨Vw.sat.sub (a.perm (m_ i_ (f_ i_))), b⟩) (n_ rfl (Y_ 0 aF_ U_ rfl rfl rfl) rfl (n_ rfl (l_ aA_ rfl rfl rfl ab_) rfl (n_ rfl (l_ aB_ rfl rfl rfl bl_) rfl (n_ rfl (u_ 1 bt_ rfl rfl rfl) rfl (n_ rfl (l_ aA_ rfl rfl rfl ab_) rfl (n_ rfl (l_ aB_ rfl rfl rfl bl_) rfl (n_ rfl (u_ 0 bt_ rfl rfl rfl) rfl (ag_ (X_ 7 rfl (by kernel_rfl) ?_)))))))))
      refine W_ (mS_ (Cl.facts (Wk.cl w)) (Cl.facts (Wk.cl x1)) (Cl.fad (Wk.cl w)) (Cl.fad (Wk.cl x1)) (Cl.fcap (Wk.cl w)) (Cl.fcap (Wk.cl x1)) (by omega) (by omega) hS1.srt) rfl I_ (fun v _ h => by exact ⟨h.2.2.2.2.2.2.1, h.2.2.1, trivial⟩) rfl fun ⟨⟨nad, ncap⟩, hn1, hn2, hn3⟩ => ?_
      dsimp only
      dsimp only at hn1 hn2 hn3
      refine e_ (w_ rfl (N_ (fun _ a b => ⟨Vw.sat.sub (a.perm (m_ i_ (f_ i_))), b.2⟩) (X_ 8 rfl (by kernel_rfl) (Q_ 1 U_ rfl rfl rfl rfl rfl rfl (e_ (w_ rfl (N_ (fun _ a b => ⟨Vw.sat.sub (a.perm (m_ i_ (f_ i_))), b.2⟩) (ah_ 0 [9, 10] (by kernel_rfl) (fun _ a b => ⟨Vw.sat.sub (a.perm (m_ i_ (f_ i_))), b.2⟩) (n_ rfl (g_ rfl) rfl ?_)))))))))
      refine n_ rfl (g_ rfl) rfl (ag_ (ac_ (by kernel_rfl) (b_ rfl (F_ ?_))))
      exact cH_ ⟨(x1, (bD_ (Cl.facts (Wk.cl w)) (Cl.facts (Wk.cl x1))), nad, ncap, 0), by unfold eH_; rw [if_neg (fun q => q ⟨hok, by omega, by omega⟩)]; rw [if_pos rfl]; exact ⟨he1 ▸ hS1, rfl⟩, ⟨hn1, hn2, hn3⟩⟩ (fun aa v h1 h2 => cs_ (us := Wk.cells x1) 1 oD_ aF_ U_ rfl rfl rfl rfl rfl aa v h1 h2) I_ (fun v _ h => by exact ⟨h.2.1, h.2.2.1, h.2.2.2.1, h.1, trivial⟩)
     ·
      replace hr5 := ba_ hr5
      refine t_ rfl (h_ (c_ (a_ (ap_ db_ rfl rfl) rfl (a_ (d_ rfl) rfl (Q_ 1 U_ rfl rfl rfl rfl rfl rfl (a_ (g_ rfl) rfl (a_ (g_ rfl) rfl (e_ (b_ rfl ?_)))))))))
      refine F_ ?_
      exact cH_ ⟨((Wk.mk [] none 0 (Cl.mk [] none 0 [] none 0)), ([] : List Fc), none, 0, e1), by unfold eH_; rw [if_neg (fun q => q ⟨hok, by omega, by omega⟩)]; rw [if_neg (by assumption)]; exact ⟨hn_ hS1 (by assumption), rfl⟩, ⟨Nat.le_refl _, by simp, fun _ => rfl⟩⟩ (fun aa v h1 h2 => cs_ (us := Wk.cells (Wk.mk [] none 0 (Cl.mk [] none 0 [] none 0))) 1 oD_ aF_ U_ rfl rfl rfl rfl rfl aa v h1 h2) I_ (fun v _ h => by exact ⟨.inl rfl, .inl rfl, .inl rfl, .inl rfl, trivial⟩)
    ·
     replace hr4 := of_decide_eq_true hr4
     refine t_ rfl (h_ (c_ (a_ (ap_ db_ rfl rfl) rfl (Q_ 0 U_ rfl rfl rfl rfl rfl rfl (a_ (g_ rfl) rfl (a_ (g_ rfl) rfl (e_ (b_ rfl (F_ ?_)))))))))
     exact cH_ ⟨((Wk.mk [] none 0 (Cl.mk [] none 0 [] none 0)), ([] : List Fc), none, 0, 1), by unfold eH_; rw [if_pos (fun q => by first | omega | exact hsc.bad (by omega) q.1)]; exact ⟨rfl, rfl, rfl⟩, ⟨Nat.le_refl _, by simp, fun _ => rfl⟩⟩ (fun aa v h1 h2 => cs_ (us := Wk.cells (Wk.mk [] none 0 (Cl.mk [] none 0 [] none 0))) 0 oD_ aF_ U_ rfl rfl rfl rfl rfl aa v h1 h2) I_ (fun v _ h => by exact ⟨.inl rfl, .inl rfl, .inl rfl, .inl rfl, trivial⟩)
   ·
    replace hr3 := of_decide_eq_true hr3
    refine r_ rfl rfl rfl rfl (r_ rfl rfl rfl rfl (a_ (H_ rfl rfl) rfl (e_ (b_ rfl (t_ rfl (h_ (c_ (a_ (ap_ db_ rfl rfl) rfl (Q_ 0 U_ rfl rfl rfl rfl rfl rfl ?_)))))))))
    refine a_ (g_ rfl) rfl (a_ (g_ rfl) rfl (e_ (b_ rfl (F_ ?_))))
    exact cH_ ⟨((Wk.mk [] none 0 (Cl.mk [] none 0 [] none 0)), ([] : List Fc), none, 0, 1), by unfold eH_; rw [if_pos (fun q => by first | omega | exact hsc.bad (by omega) q.1)]; exact ⟨rfl, rfl, rfl⟩, ⟨Nat.le_refl _, by simp, fun _ => rfl⟩⟩ (fun aa v h1 h2 => cs_ (us := Wk.cells (Wk.mk [] none 0 (Cl.mk [] none 0 [] none 0))) 0 oD_ aF_ U_ rfl rfl rfl rfl rfl aa v h1 h2) I_ (fun v _ h => by exact ⟨.inl rfl, .inl rfl, .inl rfl, .inl rfl, trivial⟩)
  ·
   replace hr2 := of_decide_eq_true hr2
   refine r_ rfl rfl rfl rfl (r_ rfl rfl rfl rfl (a_ (H_ rfl rfl) rfl (a_ (d_ rfl) rfl (r_ rfl rfl rfl rfl (r_ rfl rfl rfl rfl (a_ (H_ rfl rfl) rfl (e_ (b_ rfl (t_ rfl ?_)))))))))
   refine h_ (c_ (a_ (ap_ db_ rfl rfl) rfl (Q_ 0 U_ rfl rfl rfl rfl rfl rfl (a_ (g_ rfl) rfl (a_ (g_ rfl) rfl (e_ (b_ rfl (F_ ?_))))))))
   exact cH_ ⟨((Wk.mk [] none 0 (Cl.mk [] none 0 [] none 0)), ([] : List Fc), none, 0, 1), by unfold eH_; rw [if_pos (fun q => by first | omega | exact hsc.bad (by omega) q.1)]; exact ⟨rfl, rfl, rfl⟩, ⟨Nat.le_refl _, by simp, fun _ => rfl⟩⟩ (fun aa v h1 h2 => cs_ (us := Wk.cells (Wk.mk [] none 0 (Cl.mk [] none 0 [] none 0))) 0 oD_ aF_ U_ rfl rfl rfl rfl rfl aa v h1 h2) I_ (fun v _ h => by exact ⟨.inl rfl, .inl rfl, .inl rfl, .inl rfl, trivial⟩)
 ·
  replace hr1 := of_decide_eq_true hr1
  have hlx1 : i < List.length (Wk.ps w) := by omega
  obtain ⟨x1, hx1⟩ : ∃ e0, (Wk.ps w)[i]? = some e0 := ⟨_, List.getElem?_eq_getElem hlx1⟩
  have hmx1 : x1 ∈ (Wk.ps w) := List.mem_of_getElem? hx1
  refine t_ rfl (z_ (b_ rfl (h_ (R_ (h_ (c_ (a_ (d_ rfl) rfl (a_ (d_ rfl) rfl (a_ (am_ bT_ rfl) rfl ?_)))))))))
  refine x_ (av_ rfl rfl) rfl fun r6 hr6 => ?_
  refine a_ (d_ rfl) rfl ?_
  cases r6
  ·
   replace hr6 := of_decide_eq_false hr6
   refine r_ rfl rfl rfl rfl (r_ rfl rfl rfl rfl (r_ rfl rfl rfl rfl (r_ rfl rfl rfl rfl (r_ rfl rfl rfl rfl (r_ rfl rfl rfl rfl (a_ (C_ rfl rfl) rfl (e_ (b_ rfl (v_ rfl ?_)))))))))
   refine c_ (a_ (d_ rfl) rfl (a_ (l_ aA_ rfl rfl rfl bE_) rfl (a_ (u_ 1 cc_ rfl rfl rfl) rfl (a_ (d_ rfl) rfl (a_ (aa_ A_ K_ rfl rfl (fun v _ h => ay_ (n := 10) Pc.cells_len (by decide) (by exact h.1) hx1) (by omega) (by first | omega | (simp; done))) rfl (a_ (aU_ (ad := (Wk.pad w)) (us := Pc.cells x1) aG_ K_ rfl (fun v _ h => by exact h.1) (Pc.cells_len _) (ad_ Pc.cells_len hx1)) rfl (aJ_ A_ K_ aX_ rfl rfl rfl rfl rfl rfl fun b5 => ?_)))))))
   refine bi_ (news := List.flatMap Pc.cells [x1]) ff_ hr_Rpc rfl rfl (f_ (f_ S_)) rfl (cy_ 0 rfl) (fun u hu => aK_ Pc.cells_one hu) (by simp only [maxLen]; (first | omega | ((try simp only [List.length_append, List.length_cons, List.length_nil]); omega))) (by (first | omega | ((try simp only [List.length_append, List.length_cons, List.length_nil]); omega))) rfl fun sv1 Hr1 hr1 => ?_
   refine aj_ List.perm_append_comm ?_
   have hq1 : aQ_ 47 10 sv1 (List.length ((cp_ (List.take n wh) 0 (List.take i (Wk.ps w))) ++ [x1])) (List.flatMap Pc.cells ((cp_ (List.take n wh) 0 (List.take i (Wk.ps w))) ++ [x1])) Hr1 := by rw [List.length_append, List.flatMap_append]; exact hr1
   refine a_ (g_ rfl) rfl (e_ (b_ rfl (c_ (a_ (d_ rfl) rfl (a_ (M_ rfl rfl rfl (af_ (by omega) (by omega))) rfl (a_ (g_ rfl) rfl (e_ (w_ rfl ?_))))))))
   exact Z_ ⟨(i + 1, n, sv1, Hr1), hlx1, hsc.miss (fun z hz => by have := (List.getElem?_eq_some_iff.1 hz).1; omega), (by rw [hsc.keep_miss hx1]; exact hq1)⟩ (by dsimp only; omega) ⟨rfl, rfl, rfl, rfl, rfl, rfl, rfl, rfl, rfl, trivial⟩ (m_ (f_ i_) (m_ (f_ i_) S_)) (fun _ _ h => h)
  ·
   replace hr6 := of_decide_eq_true hr6
   have hly1 : n < List.length wh := by omega
   obtain ⟨y1, hy1⟩ : ∃ e0, wh[n]? = some e0 := ⟨_, List.getElem?_eq_getElem hly1⟩
   have hmy1 : y1 ∈ wh := List.mem_of_getElem? hy1
   refine p_ rfl rfl (a_ (d_ rfl) rfl (p_ rfl rfl (a_ (d_ rfl) rfl (p_ rfl rfl (a_ (aa_ bT_ L_ rfl rfl (fun v _ h => ay_ (n := 1) ev_ (by decide) (by exact h.2.2.2.1) hy1) (by omega) (by first | omega | (simp; done))) rfl (p_ rfl rfl (a_ (aN_ (ad := had) P_ rfl (fun v _ h => by exact h.2.2.2.1) (ad_ ev_ hy1 0 _ rfl)) rfl (p_ rfl rfl (a_ (d_ rfl) rfl ?_)))))))))
   refine p_ rfl rfl (x_ (aM_ rfl rfl) rfl fun r7 hr7 => ?_)
   refine a_ (H_ rfl rfl) rfl (e_ (b_ rfl ?_))
   cases r7
   ·
    replace hr7 := ne_of_beq_false hr7
    refine v_ rfl (c_ (a_ (d_ rfl) rfl (a_ (l_ aA_ rfl rfl rfl bE_) rfl (a_ (u_ 1 cc_ rfl rfl rfl) rfl (a_ (d_ rfl) rfl (a_ (aa_ A_ K_ rfl rfl (fun v _ h => ay_ (n := 10) Pc.cells_len (by decide) (by exact h.1) hx1) (by omega) (by first | omega | (simp; done))) rfl (a_ (aU_ (ad := (Wk.pad w)) (us := Pc.cells x1) aG_ K_ rfl (fun v _ h => by exact h.1) (Pc.cells_len _) (ad_ Pc.cells_len hx1)) rfl (aJ_ A_ K_ aX_ rfl rfl rfl rfl rfl rfl fun b6 => ?_))))))))
    refine bi_ (news := List.flatMap Pc.cells [x1]) ff_ hr_Rpc rfl rfl (f_ (f_ S_)) rfl (cy_ 0 rfl) (fun u hu => aK_ Pc.cells_one hu) (by simp only [maxLen]; (first | omega | ((try simp only [List.length_append, List.length_cons, List.length_nil]); omega))) (by (first | omega | ((try simp only [List.length_append, List.length_cons, List.length_nil]); omega))) rfl fun sv2 Hr2 hr2 => ?_
    refine aj_ List.perm_append_comm ?_
    have hq2 : aQ_ 47 10 sv2 (List.length ((cp_ (List.take n wh) 0 (List.take i (Wk.ps w))) ++ [x1])) (List.flatMap Pc.cells ((cp_ (List.take n wh) 0 (List.take i (Wk.ps w))) ++ [x1])) Hr2 := by rw [List.length_append, List.flatMap_append]; exact hr2
    refine a_ (g_ rfl) rfl (e_ (b_ rfl (c_ (a_ (d_ rfl) rfl (a_ (M_ rfl rfl rfl (af_ (by omega) (by omega))) rfl (a_ (g_ rfl) rfl (e_ (w_ rfl ?_))))))))
    exact Z_ ⟨(i + 1, n, sv2, Hr2), hlx1, hsc.miss (fun z hz => by rw [hy1] at hz; cases hz; assumption), (by rw [hsc.keep_miss hx1]; exact hq2)⟩ (by dsimp only; omega) ⟨rfl, rfl, rfl, rfl, rfl, rfl, rfl, rfl, rfl, trivial⟩ (m_ (f_ i_) (m_ (f_ i_) S_)) (fun _ _ h => h)
   ·
    replace hr7 := eq_of_beq hr7
    refine t_ rfl (c_ (a_ (d_ rfl) rfl (a_ (M_ rfl rfl rfl (af_ (by omega) (by omega))) rfl (a_ (g_ rfl) rfl (e_ (b_ rfl (c_ (a_ (d_ rfl) rfl (a_ (M_ rfl rfl rfl (af_ (by omega) (by omega))) rfl ?_)))))))))
    refine a_ (g_ rfl) rfl (e_ (w_ rfl ?_))
    exact Z_ ⟨(i + 1, n + 1, sv_Rpc, H_Rpc), hlx1, hsc.hit (by rw [hy1]; congr 1), (by rw [hsc.keep_hit (by rw [hy1]; congr 1) hx1]; exact hr_Rpc)⟩ (by dsimp only; omega) ⟨rfl, rfl, rfl, rfl, rfl, rfl, rfl, rfl, rfl, trivial⟩ (m_ i_ (m_ i_ aD_)) (fun _ _ h => h)
end Go.Proofs.YtpdbbglpbngeiaaGreatDoor
namespace Go.Proofs.YtpdbbglpbngeiaaGreatDoor
open Go Go.Sx Go.Proofs
attribute [local irreducible] Code.wp wpList wpAnyH
open Go.Vs
theorem ia_ {p : List Pc} {bu : Int} {w v : Wk} {e f : Int} (h : cY_ p bu w e) (k : cY_ p bu v f) : w.ps = v.ps ∧ (w.cl.atoms = v.cl.atoms ∧ w.cl.facts = v.cl.facts) ∧ e = f := by
  obtain ⟨c, h1, h2, h3⟩ := h
  obtain ⟨d, k1, k2, k3⟩ := k
  obtain ⟨q1, q2, q3⟩ := km_ h1 k1
  subst q3
  by_cases he : e = 0
  · obtain ⟨a1, a2, _⟩ := h2 he
    obtain ⟨b1, b2, _⟩ := k2 he
    rw [a1, a2, b1, b2]; exact ⟨rfl, ⟨q1, q2⟩, rfl⟩
  · rw [h3 he, k3 he]; exact ⟨rfl, ⟨rfl, rfl⟩, rfl⟩
theorem oc_ {w x y : Wk} {p : List Pc} {bu : Int} {n m : List Fc} {e f : Int} (h : ex_ w p bu x n e) (k : ex_ w p bu y m f) : x.ps = y.ps ∧ (x.cl.atoms = y.cl.atoms ∧ x.cl.facts = y.cl.facts) ∧ n = m ∧ e = f := by
  unfold ex_ at h k
  split at h
  · rename_i q; rw [if_pos q] at k; obtain ⟨rfl, rfl, rfl⟩ := h; obtain ⟨rfl, rfl, rfl⟩ := k; exact ⟨rfl, ⟨rfl, rfl⟩, rfl, rfl⟩
  rename_i q1; rw [if_neg q1] at k
  split at h
  · rename_i q; rw [if_pos q] at k; obtain ⟨rfl, rfl, rfl⟩ := h; obtain ⟨rfl, rfl, rfl⟩ := k; exact ⟨rfl, ⟨rfl, rfl⟩, rfl, rfl⟩
  rename_i q2; rw [if_neg q2] at k
  split at h
  · rename_i q; rw [if_pos q] at k; obtain ⟨rfl, rfl, rfl⟩ := h; obtain ⟨rfl, rfl, rfl⟩ := k; exact ⟨rfl, ⟨rfl, rfl⟩, rfl, rfl⟩
  rename_i q3; rw [if_neg q3] at k
  obtain ⟨h1, h2⟩ := h
  obtain ⟨k1, k2⟩ := k
  obtain ⟨a, b, c⟩ := ia_ h1 k1
  subst c
  exact ⟨a, b, by rw [h2, k2, b.2], rfl⟩
theorem nt_ {w x y : Wk} {l : List Int} {bu : Int} {n m : List Fc} {e f : Int} (h : eH_ w l bu x n e) (k : eH_ w l bu y m f) : x.ps = y.ps ∧ (x.cl.atoms = y.cl.atoms ∧ x.cl.facts = y.cl.facts) ∧ n = m ∧ e = f := by
  unfold eH_ at h k
  split at h
  · rename_i q; rw [if_pos q] at k; obtain ⟨rfl, rfl, rfl⟩ := h; obtain ⟨rfl, rfl, rfl⟩ := k; exact ⟨rfl, ⟨rfl, rfl⟩, rfl, rfl⟩
  rename_i q1; rw [if_neg q1] at k
  obtain ⟨h1, h2⟩ := h
  obtain ⟨k1, k2⟩ := k
  obtain ⟨a, b, c⟩ := ia_ h1 k1
  subst c
  exact ⟨a, b, by rw [h2, k2, b.2], rfl⟩
set_option maxHeartbeats 2000000 in
theorem lS_ (old p : List Pc) (oad pad : Option Addr) (ocap pcap : Nat) (wh : List Int) (had : Option Addr) (hcap : Nat) (bu : Int) (hold1 : old.length ≤ ocap) (hold2 : ocap ≤ 1099511627744) (hold3 : oad = none → ocap = 0) (hold4 : ∀ x ∈ old, x.big) (hp1 : p.length ≤ pcap) (hp2 : pcap ≤ 1099511627744) (hp3 : pad = none → pcap = 0) (hp4 : ∀ x ∈ p, x.big) (hwl : wh.length ≤ 100000000000000) : Tri Tryz.prog 8 #[.slice oad (List.length old) ocap, .slice pad (List.length p) pcap, .slice had (List.length wh) hcap, .int .i64 bu] [] [az_ oad (List.flatMap Pc.cells old), az_ pad (List.flatMap Pc.cells p), az_ had (List.flatMap gZ_ wh), gP_] (fun _ : Unit => .bool true) (fun _ => []) (fun _ => []) := by
 refine T_ Tryz.func8 rfl rfl Tryz.ntmps8 rfl fun v0 => ?_
 refine h_ (c_ (a_ (g_ rfl) rfl (e_ (b_ rfl (h_ (h_ (c_ (W_ (ou_) rfl I_ (fun v _ h => by exact ⟨h.2.2.2.1, trivial⟩) rfl fun _ => ?_))))))))
 refine a_ (ce_ rfl) rfl (e_ (b_ rfl (v_ rfl (z_ (b_ rfl (h_ (h_ (c_ (a_ (d_ rfl) rfl ?_)))))))))
 refine W_ (nd_ old oad ocap (by omega) hold4) rfl I_ (fun v _ h => by exact ⟨h.1, trivial⟩) rfl fun ⟨sbold, hsbold⟩ => ?_
 dsimp only
 refine a_ (ce_ rfl) rfl (a_ (d_ rfl) rfl ?_)
 cases sbold
 ·
  refine r_ rfl rfl rfl rfl (r_ rfl rfl rfl rfl (r_ rfl rfl rfl rfl (a_ (H_ rfl rfl) rfl (a_ (d_ rfl) rfl (r_ rfl rfl rfl rfl (r_ rfl rfl rfl rfl (r_ rfl rfl rfl rfl (a_ (H_ rfl rfl) rfl (a_ (d_ rfl) rfl ?_)))))))))
  refine r_ rfl rfl rfl rfl (r_ rfl rfl rfl rfl (r_ rfl rfl rfl rfl (r_ rfl rfl rfl rfl (r_ rfl rfl rfl rfl (a_ (H_ rfl rfl) rfl (e_ (b_ rfl (t_ rfl (h_ ?_)))))))))
  refine c_ (a_ (g_ rfl) rfl (e_ (b_ rfl (F_ ?_))))
  exact aw_ ks_ () rfl I_ (fun _ _ _ => trivial)
 ·
  obtain ⟨hold5, hold6⟩ := hsbold rfl
  refine p_ rfl rfl (a_ (d_ rfl) rfl (p_ rfl rfl (W_ (nd_ p pad pcap (by omega) hp4) rfl I_ (fun v _ h => by exact ⟨h.2.1, trivial⟩) rfl fun ⟨sbp, hsbp⟩ => ?_)))
  dsimp only
  refine p_ rfl rfl (a_ (ce_ rfl) rfl (a_ (C_ rfl rfl) rfl (a_ (d_ rfl) rfl ?_)))
  cases sbp
  ·
   refine r_ rfl rfl rfl rfl (r_ rfl rfl rfl rfl (r_ rfl rfl rfl rfl (a_ (H_ rfl rfl) rfl (a_ (d_ rfl) rfl (r_ rfl rfl rfl rfl (r_ rfl rfl rfl rfl (r_ rfl rfl rfl rfl (r_ rfl rfl rfl rfl (r_ rfl rfl rfl rfl ?_)))))))))
   refine a_ (H_ rfl rfl) rfl (e_ (b_ rfl (t_ rfl (h_ (c_ (a_ (g_ rfl) rfl (e_ (b_ rfl (F_ ?_)))))))))
   exact aw_ ks_ () rfl I_ (fun _ _ _ => trivial)
  ·
   obtain ⟨hp5, hp6⟩ := hsbp rfl
   refine p_ rfl rfl (a_ (d_ rfl) rfl (p_ rfl rfl (a_ (am_ bT_ rfl) rfl (p_ rfl rfl (x_ (bR_ rfl rfl) rfl fun r1 hr1 => ?_)))))
   refine a_ (C_ rfl rfl) rfl (a_ (d_ rfl) rfl ?_)
   cases r1
   ·
    replace hr1 := of_decide_eq_false hr1
    refine p_ rfl rfl (a_ (d_ rfl) rfl (p_ rfl rfl (a_ (d_ rfl) rfl (p_ rfl rfl (aJ_ dr_ bE_ cr_ rfl rfl rfl rfl rfl rfl fun b1 => ?_)))))
    refine bz_ (List.flatMap PL.cells [(PL.mk old oad ocap), (PL.mk p pad pcap)]) i_ rfl ?_
    refine p_ rfl rfl ?_
    refine W_ (nH_ [(PL.mk old oad ocap), (PL.mk p pad pcap)] (some ⟨b1, 0, none⟩) 2 (fun y hy => by simp only [List.mem_cons, List.not_mem_nil, or_false] at hy; rcases hy with rfl | rfl; exact ⟨hold1, hold3, by dsimp only; omega⟩; exact ⟨hp1, hp3, by dsimp only; omega⟩) (by simp) (fun y hy => by simp only [dM_, List.flatMap_cons, List.flatMap_nil, List.append_nil, List.mem_append] at hy; rcases hy with hy | hy; exact hold6 y hy; exact hp6 y hy) (by simp only [dM_, List.flatMap_cons, List.flatMap_nil, List.append_nil, List.length_append]; omega)) rfl I_ (fun v _ h => by refine ⟨h.1, fun y hy => ?_, trivial⟩; simp only [List.mem_cons, List.not_mem_nil, or_false] at hy; rcases hy with rfl | rfl; exact h.2.1; exact h.2.2.1) rfl fun lb => ?_
    refine p_ rfl rfl (a_ (ce_ rfl) rfl (a_ (C_ rfl rfl) rfl (e_ (b_ rfl ?_))))
    cases lb
    ·
     refine t_ rfl (h_ (c_ (a_ (g_ rfl) rfl (e_ (b_ rfl (F_ ?_))))))
     exact aw_ ks_ () rfl I_ (fun _ _ _ => trivial)
    ·
     refine v_ rfl (z_ (b_ rfl (h_ (c_ (a_ (d_ rfl) rfl (W_ (iK_ old oad ocap 2000 hold6 hold1 hold3 (by omega)) rfl I_ (fun v _ h => by exact ⟨h.2.1, trivial⟩) rfl fun ⟨⟨w, e0⟩, hS⟩ => ?_))))))
     dsimp only
     dsimp only at hS
     have hSk := hS.ok
     have hSl := hS.len
     have hSm := hS.sm hold6
     have hSr := hS.srt
     refine a_ (d_ rfl) rfl (a_ (ae_ rfl rfl) rfl (a_ (ae_ rfl rfl) rfl (ao_ bA_ rfl fun b2 => ?_)))
     refine Q_ 0 U_ rfl rfl rfl rfl rfl rfl (a_ (g_ rfl) rfl (e_ (b_ rfl (h_ (h_ (c_ (a_ (d_ rfl) rfl (x_ (bN_ rfl rfl) rfl fun r2 hr2 => ?_))))))))
     refine e_ (b_ rfl ?_)
     cases r2
     ·
      replace hr2 := bb_ hr2
      refine v_ rfl (z_ (b_ rfl (h_ (c_ (a_ (Y_ 0 aF_ U_ rfl rfl rfl) rfl (a_ (d_ rfl) rfl (a_ (d_ rfl) rfl (W_ (qJ_ w p pad pcap bu hSm hSk.al hSk.az (by omega) (by omega) hp6 hp1 hp3 (by omega)) rfl I_ (fun v _ h => by exact ⟨h.1, h.2.1, h.2.2.1, h.2.2.2.2.2.1, h.2.2.2.2.2.2.2.1, trivial⟩) rfl fun ⟨⟨wx, n1, n1ad, n1cp, ef⟩, hA, hAk⟩ => ?_))))))))
      dsimp only
      dsimp only at hA hAk
      have hAo := hA.ok
      refine a_ (d_ rfl) rfl (a_ (ae_ rfl rfl) rfl (a_ (ae_ rfl rfl) rfl (a_ (ae_ rfl rfl) rfl (ao_ bA_ rfl fun b3 => ?_))))
      refine Q_ 0 U_ rfl rfl rfl rfl rfl rfl (a_ (g_ rfl) rfl (a_ (g_ rfl) rfl (e_ (b_ rfl (h_ (c_ (a_ (Y_ 1 aF_ U_ rfl rfl rfl) rfl (a_ (d_ rfl) rfl (a_ (d_ rfl) rfl ?_)))))))))
      refine W_ (rAdd_c w p pad pcap bu hSm hSk.al hSk.az (by omega) hSr hp6 hp1 hp3 (by omega)) rfl I_ (fun v _ h => by exact ⟨h.2.2.2.2.1, h.2.2.2.2.2.1, h.2.2.2.2.2.2.1, h.2.2.2.2.2.2.2.2.2.1, trivial⟩) rfl fun ⟨⟨wy, n2, n2ad, n2cp, eg⟩, hB, hBk⟩ => ?_
      dsimp only
      dsimp only at hB hBk
      have hBo := hB.ok
      obtain ⟨hBu1, ⟨hBu2, hBu3⟩, hBu4, hBu5⟩ := oc_ hA hB
      refine a_ (d_ rfl) rfl (a_ (ae_ rfl rfl) rfl (a_ (ae_ rfl rfl) rfl (a_ (ae_ rfl rfl) rfl (ao_ bA_ rfl fun b4 => ?_))))
      refine Q_ 0 U_ rfl rfl rfl rfl rfl rfl (a_ (g_ rfl) rfl (a_ (g_ rfl) rfl (e_ (b_ rfl (h_ (c_ (a_ (Y_ 2 aF_ U_ rfl rfl rfl) rfl (a_ (d_ rfl) rfl (a_ (d_ rfl) rfl ?_)))))))))
      refine W_ (iI_ w wh had hcap bu hSm hSk.al hSk.az (by omega) (by omega) (by omega)) rfl I_ (fun v _ h => by exact ⟨h.2.2.2.2.2.2.2.2.1, h.2.2.2.2.2.2.2.2.2.1, h.2.2.2.2.2.2.2.2.2.2.1, h.2.2.2.2.2.2.2.2.2.2.2.2.2.2.1, h.2.2.2.2.2.2.2.2.2.2.2.2.2.2.2.1, trivial⟩) rfl fun ⟨⟨xa, n3, n3ad, n3cp, eh⟩, hC, hCk⟩ => ?_
      dsimp only
      dsimp only at hC hCk
      have hCo := hC.ok
      refine a_ (d_ rfl) rfl (a_ (ae_ rfl rfl) rfl (a_ (ae_ rfl rfl) rfl (a_ (ae_ rfl rfl) rfl (ao_ bA_ rfl fun b5 => ?_))))
      refine Q_ 0 U_ rfl rfl rfl rfl rfl rfl (a_ (g_ rfl) rfl (a_ (g_ rfl) rfl (e_ (b_ rfl (h_ (c_ (a_ (Y_ 3 aF_ U_ rfl rfl rfl) rfl (a_ (d_ rfl) rfl (a_ (d_ rfl) rfl ?_)))))))))
      refine W_ (nu_ w wh had hcap bu hSm hSk.al hSk.az (by omega) (by omega) (by omega)) rfl I_ (fun v _ h => by exact ⟨h.2.2.2.2.2.2.2.2.2.2.2.2.1, h.2.2.2.2.2.2.2.2.2.2.2.2.2.1, h.2.2.2.2.2.2.2.2.2.2.2.2.2.2.1, h.2.2.2.2.2.2.2.2.2.2.2.2.2.2.2.2.2.2.1, trivial⟩) rfl fun ⟨⟨xb, n4, n4ad, n4cp, ei⟩, hD, hDk⟩ => ?_
      dsimp only
      dsimp only at hD hDk
      have hDo := hD.ok
      obtain ⟨hDu1, ⟨hDu2, hDu3⟩, hDu4, hDu5⟩ := nt_ hC hD
      refine a_ (d_ rfl) rfl (a_ (ae_ rfl rfl) rfl (a_ (ae_ rfl rfl) rfl (a_ (ae_ rfl rfl) rfl (ao_ bA_ rfl fun b6 => ?_))))
      refine Q_ 0 U_ rfl rfl rfl rfl rfl rfl (a_ (g_ rfl) rfl (a_ (g_ rfl) rfl (e_ (b_ rfl (h_ (c_ (a_ (Y_ 3 aF_ U_ rfl rfl rfl) rfl (a_ (Y_ 2 aF_ U_ rfl rfl rfl) rfl (as_ (jU_ wx wy (by omega) (by omega) (by omega) (by omega) (by omega) (by omega)) rfl I_ (fun v _ h => by exact ⟨h.2.2.2.2.2.2.2.2.2.2.2.2.1, h.2.2.2.2.2.2.2.2.2.2.2.2.2.1, h.2.2.2.2.2.2.2.2.2.2.2.2.2.2.1, h.2.2.2.2.2.2.2.2.1, h.2.2.2.2.2.2.2.2.2.1, h.2.2.2.2.2.2.2.2.2.2.1, trivial⟩) rfl fun r3 hr3 => ?_)))))))))
      refine a_ (d_ rfl) rfl ?_
      cases r3
      ·
       simp at hr3
       simp [hBu1, hBu2, hBu3] at hr3
      ·
       simp at hr3
       refine p_ rfl rfl (a_ (d_ rfl) rfl (p_ rfl rfl (a_ (d_ rfl) rfl (p_ rfl rfl (as_ (kq_ n1 n2 n1ad n2ad n1cp n2cp (by omega) (by omega)) rfl I_ (fun v _ h => by exact ⟨h.2.2.2.2.2.2.2.2.2.2.2.2.2.2.2.1, h.2.2.2.2.2.2.2.2.2.2.2.1, trivial⟩) rfl fun r4 hr4 => ?_)))))
       refine a_ (H_ rfl rfl) rfl (a_ (d_ rfl) rfl ?_)
       cases r4
       ·
        replace hr4 := of_decide_eq_false hr4
        exact absurd hBu4 hr4
       ·
        replace hr4 := of_decide_eq_true hr4
        refine p_ rfl rfl (a_ (d_ rfl) rfl (p_ rfl rfl (a_ (d_ rfl) rfl (p_ rfl rfl (x_ (aM_ rfl rfl) rfl fun r5 hr5 => ?_)))))
        refine a_ (H_ rfl rfl) rfl (a_ (d_ rfl) rfl ?_)
        cases r5
        ·
         replace hr5 := ne_of_beq_false hr5
         exact absurd hBu5 hr5
        ·
         replace hr5 := eq_of_beq hr5
         refine p_ rfl rfl (a_ (Y_ 1 aF_ U_ rfl rfl rfl) rfl (p_ rfl rfl (a_ (Y_ 0 aF_ U_ rfl rfl rfl) rfl (p_ rfl rfl (as_ (jU_ xa xb (by omega) (by omega) (by omega) (by omega) (by omega) (by omega)) rfl I_ (fun v _ h => by exact ⟨h.2.2.2.2.1, h.2.2.2.2.2.1, h.2.2.2.2.2.2.1, h.1, h.2.1, h.2.2.1, trivial⟩) rfl fun r6 hr6 => ?_)))))
         refine a_ (H_ rfl rfl) rfl (a_ (d_ rfl) rfl ?_)
         cases r6
         ·
          simp at hr6
          simp [hDu1, hDu2, hDu3] at hr6
         ·
          simp at hr6
          refine p_ rfl rfl (a_ (d_ rfl) rfl (p_ rfl rfl (a_ (d_ rfl) rfl (p_ rfl rfl (as_ (kq_ n3 n4 n3ad n4ad n3cp n4cp (by omega) (by omega)) rfl I_ (fun v _ h => by exact ⟨h.2.2.2.2.2.2.2.1, h.2.2.2.1, trivial⟩) rfl fun r7 hr7 => ?_)))))
          refine a_ (H_ rfl rfl) rfl (a_ (d_ rfl) rfl ?_)
          cases r7
          ·
           replace hr7 := of_decide_eq_false hr7
           exact absurd hDu4 hr7
          ·
           replace hr7 := of_decide_eq_true hr7
           refine p_ rfl rfl (a_ (d_ rfl) rfl (p_ rfl rfl (a_ (d_ rfl) rfl (p_ rfl rfl (x_ (aM_ rfl rfl) rfl fun r8 hr8 => ?_)))))
           refine a_ (H_ rfl rfl) rfl (a_ (g_ rfl) rfl (e_ (b_ rfl (F_ ?_))))
           exact aw_ ks_ () (y_ rfl (by rw [← hr8]; exact beq_iff_eq.2 hDu5)) I_ (fun _ _ _ => trivial)
     ·
      replace hr2 := ba_ hr2
      refine t_ rfl (h_ (c_ (a_ (g_ rfl) rfl (e_ (b_ rfl (F_ ?_))))))
      exact aw_ ks_ () rfl I_ (fun _ _ _ => trivial)
   ·
    replace hr1 := of_decide_eq_true hr1
    refine r_ rfl rfl rfl rfl (r_ rfl rfl rfl rfl (r_ rfl rfl rfl rfl (r_ rfl rfl rfl rfl (r_ rfl rfl rfl rfl (a_ (H_ rfl rfl) rfl (e_ (b_ rfl (t_ rfl (h_ ?_)))))))))
    refine c_ (a_ (g_ rfl) rfl (e_ (b_ rfl (F_ ?_))))
    exact aw_ ks_ () rfl I_ (fun _ _ _ => trivial)
end Go.Proofs.YtpdbbglpbngeiaaGreatDoor
namespace Go.Proofs.YtpdbbglpbngeiaaGreatDoor
open Go Go.Sx Go.Proofs
attribute [local irreducible] Code.wp wpList wpAnyH
open Go.Vs Go.ChangeShapes Go.WideShapes Go.ChangeAt Go.RowKit
structure Tys3 (P : Program) (tI tU tPs tK tW tH tHs tIs : TypeId) : Prop where
  u : P.underlying tU = some (.int .u32)
  w : ∃ fs, P.underlying tW = some (.struct fs) ∧ fs.toList.map (fun f => (f.type, f.offset)) = [(tPs, 0), (tK, 1)]
  h : ∃ fs, P.underlying tH = some (.struct fs) ∧ fs.toList.map (fun f => (f.type, f.offset)) = [(tPs, 0), (tU, 1)]
  hs : P.underlying tHs = some (.slice tH)
  is : P.underlying tIs = some (.slice tI)
  cu : P.cellsOf tU = 1
  cps : P.cellsOf tPs = 1
  cw : P.cellsOf tW = 3
  ch : P.cellsOf tH = 2
  bh : P.bytesOf tH = 32
  bi : P.bytesOf tI = 8
theorem ot_ {H : Type} {enc : TypeId × Value → H} {P : Program} {W : World} {ts te : TypeId} (hs : P.underlying ts = some (.slice te)) {n : Nat} {ad : Option Addr} {len cap : Nat} {x : DataW H × List MemPlace} (h : DataW.trod enc P W 0 (fun _ => true) true n ts [.slice ad len cap] = some x) : ad = none → cap = 0 := by
  intro e
  subst e
  rcases DataW.trod_slice hs h with ⟨h0, _⟩ | ⟨a, l, c, elems, rest, m, hn, h0, _⟩
  · cases h0; rfl
  · cases h0
section
variable {H : Type} {enc : TypeId × Value → H} {P : Program} {W : World} {tI tB tS tSs tC tCs tA tAs tP tPs tF tFs tK tU tW tH tHs tIs : TypeId} (X : Tys P tI tB tS tSs tC tCs tA tAs tP tPs) (Z : Tys2 P tI tS tSs tF tFs tK) (Y : Tys3 P tI tU tPs tK tW tH tHs tIs) {base : Nat} {v : Value} {d : DataW H} {ps : List MemPlace}
include X Y
theorem qk_ {n : Nat} {cs : List Value} {x : DataW H × List MemPlace} (h : DataW.trod enc P W 0 (fun _ => true) true n tIs cs = some x) (hw : wok (x.1.weights P tIs)) :
    ∃ (l : List Int) (ad : Option Addr) (cap : Nat), cs = [.slice ad l.length cap] ∧ bv_ (vw W) ad (l.flatMap gZ_) ∧ (∀ y ∈ l, -9223372036854775808 ≤ y ∧ y ≤ 9223372036854775807) ∧ l.length ≤ cap ∧ cap ≤ 17592186043904 := by
  obtain ⟨l, ad, cap, e, hrow, hq, hlc, hcap⟩ := mN_ gZ_ 1 ev_ (by decide) (fun y : Int => -9223372036854775808 ≤ y ∧ y ≤ 9223372036854775807) Y.is X.ci (fun m' _ cs' y hy _ => jd_ X hy) h hw
  rw [Y.bi] at hcap; simp only [reachBytes] at hcap
  exact ⟨l, ad, cap, e, hrow, hq, hlc, by omega⟩
theorem px_ (hval : Value.okWide P W .any base tIs v) (h : DataW.Trod enc P W 0 (fun _ => true) true tIs v d ps) (hw : wok (d.weights P tIs)) :
    ∃ (l : List Int) (ad : Option Addr) (cap : Nat), v = .slice ad l.length cap ∧ bv_ (vw W) ad (l.flatMap gZ_) ∧ (∀ y ∈ l, -9223372036854775808 ≤ y ∧ y ≤ 9223372036854775807) ∧ l.length ≤ cap ∧ cap ≤ 17592186043904 := by
  obtain ⟨a, len, cap, rfl⟩ := okWide_slice Y.is hval
  obtain ⟨n, hn⟩ := h
  obtain ⟨l, ad, cap', e, h1⟩ := qk_ X Y hn hw
  simp only [Value.cells, List.cons.injEq, and_true] at e
  exact ⟨l, ad, cap', e, h1⟩
end
section
variable {H : Type} {enc : TypeId × Value → H} {P : Program} {W : World} {tI tB tS tSs tC tCs tA tAs tP tPs tF tFs tK tU tW tH tHs tIs : TypeId} (X : Tys P tI tB tS tSs tC tCs tA tAs tP tPs) (Z : Tys2 P tI tS tSs tF tFs tK) (Y : Tys3 P tI tU tPs tK tW tH tHs tIs) {base : Nat} {v : Value} {d : DataW H} {ps : List MemPlace}
include X Z Y
end
section
variable {H : Type} {enc : TypeId × Value → H} {P : Program} {W : World} {tI tB tS tSs tC tCs tA tAs tP tPs tF tFs tK tU tW tH tHs tIs : TypeId} (X : Tys P tI tB tS tSs tC tCs tA tAs tP tPs) (Z : Tys2 P tI tS tSs tF tFs tK) (Y : Tys3 P tI tU tPs tK tW tH tHs tIs) {base : Nat} {v : Value} {d : DataW H} {ps : List MemPlace}
include X
theorem nh_ (hval : Value.okWide P W .any base tPs v) (h : DataW.Trod enc P W 0 (fun _ => true) true tPs v d ps) (hw : wok (d.weights P tPs)) :
    ∃ (l : List Pc) (ad : Option Addr) (cap : Nat), v = .slice ad l.length cap ∧ bv_ (vw W) ad (l.flatMap Pc.cells) ∧ (∀ y ∈ l, y.big) ∧ l.length ≤ cap ∧ cap ≤ 1099511627744 ∧ (ad = none → cap = 0) := by
  obtain ⟨a, len, cap, rfl⟩ := okWide_slice X.ps hval
  obtain ⟨n, hn⟩ := h
  obtain ⟨l, ad, cap', e, h1, h2, h3, h4⟩ := pcs_of X hn hw
  have z := ot_ X.ps (e ▸ hn)
  simp only [Value.cells, List.cons.injEq, and_true] at e
  exact ⟨l, ad, cap', e, h1, h2, h3, h4, z⟩
end
theorem tysY : Tys3 Tryz.prog 3 65 22 28 50 67 64 58 where
  u := Tryz.underlying65
  w := ⟨_, Tryz.underlying50, rfl⟩
  h := ⟨_, Tryz.underlying67, rfl⟩
  hs := Tryz.underlying64
  is := Tryz.underlying58
  cu := by kernel_rfl
  cps := by kernel_rfl
  cw := by kernel_rfl
  ch := by kernel_rfl
  bh := by kernel_rfl
  bi := by kernel_rfl
end Go.Proofs.YtpdbbglpbngeiaaGreatDoor
