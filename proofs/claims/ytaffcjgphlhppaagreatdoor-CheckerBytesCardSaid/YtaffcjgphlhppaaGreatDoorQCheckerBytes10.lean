/-
  Part of the proof of the law CheckerBytes over this seat: the small logic, the data, the contracts of functions (no condition).
-/
import Derived.Test.YtaffcjgphlhppaaGreatDoorQCheckerBytes9
import Derived.Test.YtaffcjgphlhppaaGreatDoorQCheckerBytes7
set_option linter.unusedVariables false
set_option linter.unusedSimpArgs false
set_option linter.unusedSectionVars false
namespace Go.Proofs.YtaffcjgphlhppaaGreatDoor
open Go Go.Sx Go.Proofs
attribute [local irreducible] Code.wp wpList wpAnyH
open Go.Vs
theorem oQ_ {P : Program} {N : Nf} {fr : Fr} {H : Hp} {Γ : List Fct} {ty t e : TypeId} {len sz : Nat} {parts : List (Nat × Operand)} {vs : List (Nat × Value)} {z cs : List Value} (hz : ∀ w, (zeroValue t).run P w = .ok (.agg z.toArray) w) (hu : ∀ w, (underlying t).run P w = .ok (.array len e) w) (hs : ∀ w, (sizeOf e).run P w = .ok sz w) (hx : Fr.evp fr parts = some vs)
    (hf : ip_ (fun i => some (i * sz, sz)) z vs = some cs) : Yld P N fr H Γ (.build t parts.toArray) ty (.agg cs.toArray) :=
  iE_ (fun a h1 w => by
    have := h1.evp hx
    rw [List.map_toArray, this]
    have hf' := gE_ _ _ _ _ hf
    simp only [Instr.build, Sem.run_bind, hz, Result.andThen_ok, hu, hs, Value.cells, hf', Sem.run_pure])
def addI {α : Type} [DecidableEq α] (y : α) (l : List α) : List α := if y ∈ l then l else l ++ [y]
theorem oK_ {α : Type} [DecidableEq α] {y z : α} {l : List α} : z ∈ addI y l ↔ z ∈ l ∨ z = y := by
  unfold addI
  by_cases h : y ∈ l
  · rw [if_pos h]; exact ⟨.inl, fun q => q.elim id fun e => e ▸ h⟩
  · rw [if_neg h, List.mem_append, List.mem_singleton]
theorem lE_ {p : List Pc} {s : Str} : dL_ p s = true ↔ s = [42] ∨ s = [33] ∨ s ∈ cX_ p := by
  rw [iu_]
  simp only [dL_, Bool.or_eq_true, decide_eq_true_eq, List.any_eq_true, Bool.and_eq_true]
  refine or_congr Iff.rfl (or_congr Iff.rfl ?_)
  simp only [cN_, gX_, List.mem_flatMap, List.mem_filter]
  constructor
  · rintro ⟨x, hx, hn, h⟩
    refine ⟨x, hx, ?_, by simpa using hn⟩
    rcases h with h | h | h <;> simp [← h]
  · rintro ⟨x, hx, hm, hn⟩
    simp only [List.mem_cons, List.not_mem_nil, or_false] at hm
    exact ⟨x, hx, by simpa using hn, by rcases hm with rfl | rfl | rfl <;> simp⟩
structure VrfH where
  vb : Nat
  ab : Nat
  es : Array MapEntry
  ec : Nat
  q : List Str
structure VrfOk (p : List Pc) (y : VrfH) : Prop where
  e : SetE str y.es y.q
  k : ∀ s, dL_ p s = true ↔ s ∈ y.q
theorem dw_ : gH_ Tryz.prog 80 [(0, 1), (1, 1), (2, 1)] [.int .i64 0, .int .i64 0, .nilFunc] := ⟨_, Tryz.zeroValue80, er_, fun w => by simp [q_, Tryz.sizeOf78]⟩
theorem strt83 : gH_ Tryz.prog 83 [(0, 1), (1, 1), (2, 1), (3, 51)] [.slice none 0 0, .map none, .slice none 0 0, .int .i64 0, .int .i64 0, .nilFunc, .int .i64 0, .int .i64 0, .nilFunc, .int .i64 0, .int .i64 0, .nilFunc, .int .i64 0, .int .i64 0, .nilFunc, .int .i64 0, .int .i64 0, .nilFunc, .int .i64 0, .int .i64 0, .nilFunc, .int .i64 0, .int .i64 0, .nilFunc, .int .i64 0, .int .i64 0, .nilFunc, .int .i64 0, .int .i64 0, .nilFunc, .int .i64 0, .int .i64 0, .nilFunc, .int .i64 0, .int .i64 0, .nilFunc, .int .i64 0, .int .i64 0, .nilFunc, .int .i64 0, .int .i64 0, .nilFunc, .int .i64 0, .int .i64 0, .nilFunc, .int .i64 0, .int .i64 0, .nilFunc, .int .i64 0, .int .i64 0, .nilFunc, .int .i64 0, .int .i64 0, .nilFunc] := ⟨_, Tryz.zeroValue83, bm_, fun w => by simp [qb_, aN_, pZ_, Tryz.sizeOf81]⟩
theorem od_ : Fn0 Tryz.prog 72 #[] (.agg hn_.toArray) := by
  refine S_ Tryz.func72 rfl rfl Tryz.ntmps72 rfl fun v0 => ?_
  refine g_ (c_ (Z_ Tryz.zeroValue81 rfl fun b1 => ?_))
  refine d_ (b_ rfl (g_ (c_ (a_ (ax_ dw_ rfl rfl) rfl (a_ (ax_ dw_ rfl rfl) rfl (a_ (ax_ dw_ rfl rfl) rfl (a_ (ax_ dw_ rfl rfl) rfl (a_ (ax_ dw_ rfl rfl) rfl (a_ (ax_ dw_ rfl rfl) rfl ?_)))))))))
  refine a_ (ax_ dw_ rfl rfl) rfl (a_ (ax_ dw_ rfl rfl) rfl (a_ (ax_ dw_ rfl rfl) rfl (a_ (ax_ dw_ rfl rfl) rfl (a_ (ax_ dw_ rfl rfl) rfl (a_ (ax_ dw_ rfl rfl) rfl (a_ (ax_ dw_ rfl rfl) rfl (a_ (ax_ dw_ rfl rfl) rfl (a_ (ax_ dw_ rfl rfl) rfl (a_ (ax_ dw_ rfl rfl) rfl ?_)))))))))
  refine a_ (ch_ (oQ_ (sz := 3) (cs := hn_) (z := [.int .i64 0, .int .i64 0, .nilFunc, .int .i64 0, .int .i64 0, .nilFunc, .int .i64 0, .int .i64 0, .nilFunc, .int .i64 0, .int .i64 0, .nilFunc, .int .i64 0, .int .i64 0, .nilFunc, .int .i64 0, .int .i64 0, .nilFunc, .int .i64 0, .int .i64 0, .nilFunc, .int .i64 0, .int .i64 0, .nilFunc, .int .i64 0, .int .i64 0, .nilFunc, .int .i64 0, .int .i64 0, .nilFunc, .int .i64 0, .int .i64 0, .nilFunc, .int .i64 0, .int .i64 0, .nilFunc, .int .i64 0, .int .i64 0, .nilFunc, .int .i64 0, .int .i64 0, .nilFunc, .int .i64 0, .int .i64 0, .nilFunc, .int .i64 0, .int .i64 0, .nilFunc, .int .i64 0, .int .i64 0, .nilFunc]) Tryz.zeroValue81 Tryz.runUnderlying81 Tryz.sizeOf80 rfl (by kernel_rfl)) (show _ = Value.agg #[.int .i64 0, .int .i64 0, .nilFunc, .int .i64 0, .int .i64 0, .func (.func 128) #[] #[], .int .i64 0, .int .i64 0, .func (.func 130) #[] #[], .int .i64 1, .int .i64 1, .func (.func 131) #[] #[], .int .i64 2, .int .i64 2, .func (.func 132) #[] #[], .int .i64 1, .int .i64 3, .func (.func 133) #[] #[], .int .i64 1, .int .i64 5, .func (.func 135) #[] #[], .int .i64 2, .int .i64 6, .func (.func 136) #[] #[], .int .i64 2, .int .i64 4, .func (.func 137) #[] #[], .int .i64 2, .int .i64 0, .func (.func 138) #[] #[], .int .i64 0, .int .i64 7, .func (.func 139) #[] #[], .int .i64 1, .int .i64 8, .func (.func 140) #[] #[], .int .i64 2, .int .i64 0, .func (.func 141) #[] #[], .int .i64 2, .int .i64 0, .func (.func 142) #[] #[], .int .i64 1, .int .i64 9, .func (.func 143) #[] #[], .int .i64 1, .int .i64 0, .func (.func 144) #[] #[], .int .i64 1, .int .i64 0, .func (.func 145) #[] #[]] from rfl)) rfl ?_
  refine Q_ 0 Tryz.sizeOf81 rfl rfl rfl rfl rfl rfl (d_ (b_ rfl (u_ ?_)))
  exact et_ () (fun aa v h1 h2 => cG_ (us := hn_) 0 Tryz.results72 Tryz.isAgg81 Tryz.sizeOf81 rfl rfl rfl aa v h1 h2) x_ (fun _ _ _ => trivial)
theorem kG_ (p : List Pc) (pad : Option Addr) (pcap : Nat) (hp : p.length ≤ 10000000) : Tri Tryz.prog 31 #[.slice pad (List.length p) pcap] [] [aY_ pad (List.flatMap Pc.cells p)] (fun y : {y : VrfH // VrfOk p y} => zp_ y.1.vb 0) (fun y => [(y.1.vb, .cells (dc_ (.slice pad p.length pcap) y.1.ab (.slice none 0 0)).toArray 83 (0, 0)), (y.1.ab, .map y.1.es y.1.ec)]) (fun _ => []) := by
  refine S_ Tryz.func31 rfl rfl Tryz.ntmps31 rfl fun v0 => ?_
  have hal := lQ_ p
  refine g_ (c_ (a_ (e_ rfl) rfl (d_ (b_ rfl (g_ (c_ (a_ (f_ rfl) rfl (iU_ rfl fun b1 => ?_))))))))
  refine hV_ (k := [42]) 0 jc_ (.inl rfl) es_ rfl rfl rfl rfl SetE.nil fun ej1 cj1 hj1 => ?_
  refine hV_ (k := [33]) 0 jc_ (.inl rfl) es_ rfl rfl rfl rfl hj1 fun ej2 cj2 hj2 => ?_
  refine a_ (f_ rfl) rfl (K_ (od_) rfl x_ (fun _ _ _ => by exact trivial) rfl fun _ => ?_)
  refine a_ (ch_ (ax_ (cs := (dc_ (.slice pad p.length pcap) b1 (.slice none 0 0))) strt83 rfl (by kernel_rfl)) (show _ = Value.agg (dc_ (.slice pad p.length pcap) b1 (.slice none 0 0)).toArray from rfl)) rfl (aM_ rfl rfl fun b2 => ?_)
  refine a_ (e_ rfl) rfl (d_ (b_ rfl (g_ (g_ (c_ (a_ (f_ rfl) rfl (K_ (pV_ p pad pcap (by omega)) rfl x_ (fun v _ h => by exact ⟨h.1, trivial⟩) rfl fun ⟨⟨aad, acap⟩, hac, ham⟩ => ?_)))))))
  dsimp only
  refine a_ (aA_ aJ_ rfl) rfl (a_ (f_ rfl) rfl (d_ (b_ rfl (ae_ ?_))))
  have hq0 : ∀ y, y ∈ (if [33] ∈ (if [42] ∈ ([] : List Str) then ([] : List Str) else ([] : List Str) ++ [[42]]) then (if [42] ∈ ([] : List Str) then ([] : List Str) else ([] : List Str) ++ [[42]]) else (if [42] ∈ ([] : List Str) then ([] : List Str) else ([] : List Str) ++ [[42]]) ++ [[33]]) ↔ y = [42] ∨ y = [33] := by intro y; simp
  refine bt_ (ι := {y : Nat × List Str × Array MapEntry × Nat // y.1 ≤ List.length (cX_ p) ∧ SetE str y.2.2.1 y.2.1 ∧ (∀ ux, ux ∈ y.2.1 ↔ ux = [42] ∨ ux = [33] ∨ ux ∈ List.take y.1 (cX_ p))}) (fun y => [(3, zp_ b2 0), (13, .slice aad (List.length (cX_ p)) acap), (14, .int .i64 (List.length (cX_ p) : Int)), (15, .int .i64 (y.1.1 : Int))]) (fun y => ((b2, .cells (dc_ (.slice pad p.length pcap) b1 (.slice none 0 0)).toArray 83 (0, 0)) :: ((b1, .map y.1.2.2.1 y.1.2.2.2) :: []))) (fun y => [aY_ aad (List.flatMap dy_ (cX_ p)), aY_ pad (List.flatMap Pc.cells p)]) (fun y => List.length (cX_ p) - y.1.1) ⟨((0 : Nat), (if [33] ∈ (if [42] ∈ ([] : List Str) then ([] : List Str) else ([] : List Str) ++ [[42]]) then (if [42] ∈ ([] : List Str) then ([] : List Str) else ([] : List Str) ++ [[42]]) else (if [42] ∈ ([] : List Str) then ([] : List Str) else ([] : List Str) ++ [[42]]) ++ [[33]]), ej2, cj2), by simp, hj2, (fun y => by rw [hq0 y]; simp)⟩ ⟨rfl, rfl, rfl, rfl, trivial⟩ (N_ C_ C_) (fun _ _ h => h) ?_
  rintro ⟨⟨i, q, es, ec⟩, hi, hE, hq⟩
  dsimp only at hi hE hq ⊢
  refine g_ (c_ (E_ (au_ rfl rfl) rfl fun r1 hr1 => ?_))
  refine d_ (b_ rfl (g_ ?_))
  cases r1
  · skip
    replace hr1 := of_decide_eq_false hr1
    refine A_ rfl (bj_ rfl (b_ rfl (g_ (c_ (a_ (f_ rfl) rfl (a_ (e_ rfl) rfl (d_ (b_ rfl (u_ ?_)))))))))
    have e9 : List.take i (cX_ p) = cX_ p := List.take_of_length_le (by omega)
    exact Y_ Tryz.results31 ⟨⟨b2, b1, es, ec, q⟩, ⟨hE, fun y => by rw [lE_, hq y, e9]⟩⟩ rfl (N_ C_ C_) (fun _ _ _ => trivial)
  · skip
    replace hr1 := of_decide_eq_true hr1
    have hlx1 : i < List.length (cX_ p) := by omega
    obtain ⟨x1, hx1⟩ : ∃ e0, (cX_ p)[i]? = some e0 := ⟨_, List.getElem?_eq_getElem hlx1⟩
    have hmx1 : x1 ∈ (cX_ p) := List.mem_of_getElem? hx1
    refine w_ rfl (J_ (b_ rfl (g_ (ae_ (g_ (c_ (a_ (an_ aJ_ y_ rfl rfl (fun v _ h => ba_ (n := 1) cs_ (by decide) (by exact h.1) hx1) (by omega) (by first | omega | (simp; done))) rfl (a_ (bE_ (ad := aad) H_ rfl (fun v _ h => by exact h.1) (ar_ cs_ hx1 0 _ rfl)) rfl (a_ (e_ rfl) rfl ?_)))))))))
    refine d_ (b_ rfl (c_ (a_ (f_ rfl) rfl (a_ (bk_ rfl) rfl (a_ (h_ bm_ rfl rfl rfl pZ_) rfl (a_ (n_ 0 Tryz.isAgg77 rfl rfl rfl) rfl (a_ (f_ rfl) rfl (hV_ (k := x1) 1 jc_ (.inr rfl) es_ rfl rfl rfl rfl hE fun ej3 cj3 hj3 => ?_))))))))
    refine d_ (b_ rfl (c_ (a_ (ag_ rfl rfl rfl (aS_ (by omega) (by omega))) rfl (a_ (f_ rfl) rfl (d_ (p_ rfl ?_))))))
    exact aU_ ⟨(i + 1, addI x1 q, ej3, cj3), hlx1, hj3, (fun y => by rw [oK_, hq y, List.take_add_one, hx1]; simp [or_assoc])⟩ (by dsimp only; omega) ⟨rfl, rfl, rfl, rfl, trivial⟩ (N_ C_ C_) (fun _ _ h => h)
end Go.Proofs.YtaffcjgphlhppaaGreatDoor
namespace Go.Proofs.YtaffcjgphlhppaaGreatDoor
open Go Go.Sx Go.Proofs
attribute [local irreducible] Code.wp wpList wpAnyH
open Go.Vs
def ke_ (fs : List Fc) (frm : List Int) (m : Int) : Prop := (frm.length : Int) = m ∧ fA_ fs frm = true
theorem fk_ {fs : List Fc} {frm : List Int} {q : Int} (h : fA_ fs frm = true) (hq : q ∈ frm) : 0 ≤ q ∧ q < (fs.length : Int) ∧ wf2 (fs.getD q.toNat zfc) = true := by
  have := List.all_eq_true.1 h q hq
  simpa [and_assoc] using this
theorem fp_ {α : Type} {l : List α} {i : Nat} {x d : α} (h : l[i]? = some x) : l.getD i d = x := by simp [List.getD, h]
theorem kv_ {fs : List Fc} {frm : List Int} {i : Nat} {q : Int} {x : Fc} (h : fA_ fs (List.take i frm) = true) (hq : frm[i]? = some q) (h0 : 0 ≤ q) (h1 : q < (fs.length : Int)) (hx : fs[q.toNat]? = some x) (hw : wf2 x = true) : fA_ fs (List.take (i + 1) frm) = true := by
  unfold fA_ at *
  rw [List.take_add_one, hq, Option.toList_some, List.all_append, h]
  have e : fs.getD q.toNat zfc = x := fp_ hx
  simp only [List.all_cons, List.all_nil, Bool.and_true, Bool.true_and, e, hw]
  rw [decide_eq_true h0, decide_eq_true h1]; rfl
theorem ku_ {fs : List Fc} {frm : List Int} {i : Nat} {q : Int} {x : Fc} (hq : frm[i]? = some q) (hx : fs[q.toNat]? = some x) : cj_ fs (List.take (i + 1) frm) = cj_ fs (List.take i frm) ++ [x] := by
  unfold cj_
  rw [List.take_add_one, hq, Option.toList_some, List.map_append]
  have e : fs.getD q.toNat zfc = x := fp_ hx
  show _ ++ [fs.getD q.toNat zfc] = _
  rw [e]
def en_ (p : List Pc) (q k : Int) : Prop := 0 ≤ q ∧ q < (p.length : Int) ∧ (p.getD q.toNat zpc).kind = k
theorem lw_ (p : List Pc) (pad : Option Addr) (pcap : Nat) (fs : List Fc) (fad : Option Addr) (fcap : Nat) (vb ab : Nat) (s : Stp) (m : Int) (hfl : fs.length ≤ 10000000) (hfr : s.frm.length ≤ 1000000) (hfs : ∀ x ∈ fs, x.sml) : TriX Tryz.prog 76 #[zp_ vb 0, Stp.val s, .int .i64 m] [] [cp_ vb (.cells (dc_ (.slice pad p.length pcap) ab (.slice fad fs.length fcap)).toArray 83 (0, 0)), aY_ fad (List.flatMap Fc.cells fs), aY_ (Stp.ad s) (List.flatMap dg_ (Stp.frm s))] (fun y : {y : Option Addr × Nat // ke_ fs s.frm m} => .slice y.1.1 (cj_ fs s.frm).length y.1.2) (fun _ => []) (fun y => [aY_ y.1.1 (List.flatMap Fc.cells (cj_ fs s.frm))]) (¬ ke_ fs s.frm m) := by
 refine bq_ Tryz.func76 rfl rfl Tryz.ntmps76 rfl fun v0 => ?_
 refine g_ (c_ (aM_ rfl rfl fun b1 => ?_))
 refine a_ (e_ rfl) rfl (d_ (b_ rfl (g_ (c_ (a_ (h_ G_ rfl rfl rfl bc_) rfl (a_ (n_ 0 bz_ rfl rfl rfl) rfl (a_ (aA_ aj_ rfl) rfl (a_ (f_ rfl) rfl (E_ (aG_ rfl rfl) rfl fun r1 hr1 => ?_)))))))))
 refine ao_ (dl_ r1) rfl x_ (fun _ _ _ => by exact trivial) rfl (fun hb => cA_ ((fun hq => by rw [hb] at hr1; simp [hq.1] at hr1))) fun ⟨_, hn1⟩ => ?_
 try dsimp only
 have hlm : (List.length (Stp.frm s) : Int) = m := eq_of_beq (hr1.trans hn1)
 refine d_ (b_ rfl (g_ (g_ (c_ (a_ (h_ G_ rfl rfl rfl bc_) rfl (a_ (n_ 0 bz_ rfl rfl rfl) rfl (a_ (aA_ aj_ rfl) rfl (a_ (f_ rfl) rfl (d_ ?_)))))))))
 refine b_ rfl (ae_ ?_)
 refine bt_ (ι := {y : Nat × Value × Hp // y.1 ≤ List.length (Stp.frm s) ∧ fA_ fs (List.take y.1 (Stp.frm s)) = true ∧ bi_ 24 6 y.2.1 (List.length (cj_ fs (List.take y.1 (Stp.frm s)))) (List.flatMap Fc.cells (cj_ fs (List.take y.1 (Stp.frm s)))) y.2.2}) (fun y => [(0, zp_ vb 0), (6, y.1.2.1), (16, .slice (Stp.ad s) (List.length (Stp.frm s)) (Stp.cap s)), (17, .int .i64 (List.length (Stp.frm s) : Int)), (18, .int .i64 (y.1.1 : Int))]) (fun y => (y.1.2.2)) (fun y => [cp_ vb (.cells (dc_ (.slice pad p.length pcap) ab (.slice fad fs.length fcap)).toArray 83 (0, 0)), aY_ fad (List.flatMap Fc.cells fs), aY_ (Stp.ad s) (List.flatMap dg_ (Stp.frm s))]) (fun y => List.length (Stp.frm s) - y.1.1) ⟨((0 : Nat), (.slice none 0 0), []), by simp, rfl, (bi_.nil _ _)⟩ ⟨rfl, rfl, rfl, rfl, rfl, trivial⟩ x_ (fun _ _ h => h) ?_
 rintro ⟨⟨i, sv_Rfc, H_Rfc⟩, hi_i, hA, hr_Rfc⟩
 dsimp only at hi_i hA hr_Rfc ⊢
 refine g_ (c_ (E_ (au_ rfl rfl) rfl fun r2 hr2 => ?_))
 refine d_ (b_ rfl (g_ ?_))
 cases r2
 ·
  replace hr2 := of_decide_eq_false hr2
  refine A_ rfl (bj_ rfl (b_ rfl (g_ (c_ (a_ (f_ rfl) rfl (a_ (e_ rfl) rfl (d_ (b_ rfl (u_ ?_)))))))))
  refine ci_ ?_
  have e9 : List.take i (Stp.frm s) = Stp.frm s := List.take_of_length_le (by omega)
  rw [e9] at hA
  have hr9 : bi_ 24 6 sv_Rfc (List.length (cj_ fs (Stp.frm s))) (List.flatMap Fc.cells (cj_ fs (Stp.frm s))) H_Rfc := by have q := hr_Rfc; rwa [e9] at q
  refine cf_ hr9 cM_ fun ad2 cp2 had2 hcad2 hmad2 hzad2 => ?_
  exact Y_ Tryz.results76 ⟨(ad2, cp2), ⟨hlm, hA⟩⟩ (gB_ rfl had2) x_ (fun v _ h => ⟨h.1, trivial⟩)
 ·
  replace hr2 := of_decide_eq_true hr2
  have hlqa : i < List.length (Stp.frm s) := by omega
  obtain ⟨qa, hqa⟩ : ∃ e0, (Stp.frm s)[i]? = some e0 := ⟨_, List.getElem?_eq_getElem hlqa⟩
  have hmqa : qa ∈ (Stp.frm s) := List.mem_of_getElem? hqa
  refine w_ rfl (J_ (b_ rfl (g_ (ae_ (g_ (c_ (a_ (an_ aj_ q_ rfl rfl (fun v _ h => ba_ (n := 1) cu_ (by decide) (by exact h.2.2.1) hqa) (by omega) (by first | omega | (simp; done))) rfl (a_ (bE_ (ad := (Stp.ad s)) B_ rfl (fun v _ h => by exact h.2.2.1) (ar_ cu_ hqa 0 _ rfl)) rfl (a_ (e_ rfl) rfl ?_)))))))))
  refine d_ (b_ rfl (g_ (c_ (a_ (f_ rfl) rfl (E_ (cw_ rfl rfl) rfl fun r3 hr3 => ?_)))))
  refine a_ (f_ rfl) rfl ?_
  cases r3
  ·
   replace hr3 := of_decide_eq_false hr3
   refine k_ rfl rfl rfl rfl (k_ rfl rfl rfl rfl (k_ rfl rfl rfl rfl (k_ rfl rfl rfl rfl (k_ rfl rfl rfl rfl (k_ rfl rfl rfl rfl (k_ rfl rfl rfl rfl (a_ (t_ rfl rfl) rfl (ao_ (dl_ false) rfl x_ (fun _ _ _ => by exact trivial) rfl (fun hb => cA_ ((fun hq => by have z := fk_ hq.2 hmqa; omega))) fun ⟨_, hn2⟩ => ?_))))))))
   try dsimp only
   cases hn2
  ·
   replace hr3 := of_decide_eq_true hr3
   refine i_ rfl rfl (a_ (f_ rfl) rfl (i_ rfl rfl (a_ (f_ rfl) rfl (i_ rfl rfl (a_ (bk_ rfl) rfl (i_ rfl rfl (a_ (h_ bm_ rfl rfl rfl aN_) rfl (i_ rfl rfl (a_ (dv_ bn_ rfl (fun v _ h => by exact h.1) rfl) rfl ?_)))))))))
   refine i_ rfl rfl (a_ (aA_ ai_ rfl) rfl (i_ rfl rfl (E_ (au_ rfl rfl) rfl fun r4 hr4 => ?_)))
   refine a_ (v_ rfl rfl) rfl (ao_ (dl_ r4) rfl x_ (fun _ _ _ => by exact trivial) rfl (fun hb => cA_ ((fun hq => by have z := fk_ hq.2 hmqa; rw [hb] at hr4; exact of_decide_eq_false hr4 z.2.1))) fun ⟨_, hn3⟩ => ?_)
   try dsimp only
   have hqr : 0 ≤ qa ∧ qa < (List.length fs : Int) := ⟨by omega, of_decide_eq_true (hr4.trans hn3)⟩
   refine d_ (b_ rfl (g_ ?_))
   have hlx1 : (Int.toNat qa) < List.length fs := by omega
   obtain ⟨x1, hx1⟩ : ∃ e0, fs[(Int.toNat qa)]? = some e0 := ⟨_, List.getElem?_eq_getElem hlx1⟩
   have hmx1 : x1 ∈ fs := List.mem_of_getElem? hx1
   refine c_ (a_ (f_ rfl) rfl (a_ (bk_ rfl) rfl (a_ (h_ bm_ rfl rfl rfl aN_) rfl (a_ (dv_ bn_ rfl (fun v _ h => by exact h.1) rfl) rfl (a_ (f_ rfl) rfl (a_ (an_ ai_ l_ rfl rfl (fun v _ h => ba_ (n := 6) Fc.cells_len (by decide) (by exact h.2.1) hx1) (by omega) (by first | omega | (simp; done))) rfl (a_ (aX_ (ad := fad) (us := Fc.cells x1) U_ l_ rfl (fun v _ h => by exact h.2.1) (Fc.cells_len _) (ar_ Fc.cells_len hx1)) rfl (ah_ (qf_ x1 (hfs x1 hmx1)) rfl x_ (fun _ _ _ => by exact trivial) rfl fun r5 hr5 => ?_))))))))
   refine ao_ (dl_ r5) rfl x_ (fun _ _ _ => by exact trivial) rfl (fun hb => cA_ ((fun hq => by have z := fk_ hq.2 hmqa; rw [hb] at hr5; rw [fp_ hx1, hr5] at z; exact absurd z.2.2 (by simp)))) fun ⟨_, hn4⟩ => ?_
   try dsimp only
   have hwx : wf2 x1 = true := hr5.trans hn4
   refine d_ (b_ rfl (c_ (a_ (f_ rfl) rfl (a_ (f_ rfl) rfl (a_ (bk_ rfl) rfl (a_ (h_ bm_ rfl rfl rfl aN_) rfl (a_ (dv_ bn_ rfl (fun v _ h => by exact h.1) rfl) rfl (a_ (f_ rfl) rfl (a_ (an_ ai_ l_ rfl rfl (fun v _ h => ba_ (n := 6) Fc.cells_len (by decide) (by exact h.2.1) hx1) (by omega) (by first | omega | (simp; done))) rfl ?_)))))))))
   refine a_ (aX_ (ad := fad) (us := Fc.cells x1) U_ l_ rfl (fun v _ h => by exact h.2.1) (Fc.cells_len _) (ar_ Fc.cells_len hx1)) rfl (be_ ai_ l_ bl_ rfl rfl rfl rfl rfl rfl fun b2 => ?_)
   refine bU_ (List.flatMap Fc.cells [x1]) C_ rfl ?_
   refine eH_ (news := List.flatMap Fc.cells [x1]) lK_ hr_Rfc rfl rfl (fun q => by cases q) (by simp) cM_ (by rw [eR_ Fc.cells 6 Fc.cells_len]; rfl) (fun v _ h => by exact h.1) (fun u hu => bH_ Fc.cells_one hu) (by simp only [maxLen]; (have := hi_i; simp only [cj_, List.length_map, List.length_take]; omega)) (by (have := hi_i; simp only [cj_, List.length_map, List.length_take]; omega)) rfl fun sv1 Hr1 hr1 => ?_
   refine as_ List.perm_append_comm ?_
   have hq1 : bi_ 24 6 sv1 (List.length ((cj_ fs (List.take i (Stp.frm s))) ++ [x1])) (List.flatMap Fc.cells ((cj_ fs (List.take i (Stp.frm s))) ++ [x1])) Hr1 := by rw [List.length_append, List.flatMap_append]; exact hr1
   refine a_ (e_ rfl) rfl (d_ (b_ rfl (c_ (a_ (ag_ rfl rfl rfl (aS_ (by omega) (by omega))) rfl (a_ (f_ rfl) rfl (d_ (p_ rfl ?_)))))))
   exact aU_ ⟨(i + 1, sv1, Hr1), hlqa, kv_ hA hqa hqr.1 hqr.2 hx1 hwx, (by have q := hq1; rw [← ku_ hqa hx1] at q; exact q)⟩ (by dsimp only; omega) ⟨rfl, rfl, rfl, rfl, rfl, trivial⟩ cM_ (fun _ _ h => h.2)
end Go.Proofs.YtaffcjgphlhppaaGreatDoor
namespace Go.Proofs.YtaffcjgphlhppaaGreatDoor
open Go Go.Sx Go.Proofs
attribute [local irreducible] Code.wp wpList wpAnyH
open Go.Vs
theorem pU_ {v : Vw} {F F' : Hp} {b : Nat} {x : Value} (hF : F.Perm ((b, .cells #[x] 4 (0, 0)) :: F')) (t : TypeId) (u : Value) (hs : v.sat F) :
    CallsD Tryz.prog 74 #[zp_ b 0] (.panicking (iz_ t u)) v.w fun e u' w' => e = .returned (.tuple #[]) ∧ u' = .panicking [{ v := .iface t u, recovered := true }] ∧ ∃ v' : Vw, v'.w = w' ∧ v'.sat ((b, .cells #[.bool false] 4 (0, 0)) :: F') ∧ v.to F v' ((b, .cells #[.bool false] 4 (0, 0)) :: F') := by
  have h2 := hs.perm hF
  have hb := (h2.own _ List.mem_cons_self).1
  have hc : v.w.cell? ⟨b, 0, none⟩ = some x := by simp [World.cell?, hb]
  have hz : v.w.frozen? ⟨b, 0, none⟩ = false := by simp [World.frozen?, hb]
  have hlt := (Array.getElem?_eq_some_iff.1 hb).1
  have hset : ((v.w.setCell ⟨b, 0, none⟩ (.bool false)).heap)[b]? = some (.cells #[.bool false] 4 (0, 0)) := by
    simp [World.setCell, Array.getElem?_modify, hb]
  have hoth : ∀ k, k ≠ b → ((v.w.setCell ⟨b, 0, none⟩ (.bool false)).heap)[k]? = v.w.heap[k]? := fun k hk => by
    simp [World.setCell, Array.getElem?_modify, Ne.symm hk]
  obtain ⟨g1, g2⟩ := eG_ (i := 0) (o' := .cells #[.bool false] 4 (0, 0)) (w' := v.w.setCell ⟨b, 0, none⟩ (.bool false)) h2 rfl rfl rfl rfl (Nat.le_refl _) (by simp [World.setCell]) hset hoth
  simp only [List.set_cons_zero] at g1 g2
  refine callsD_of_wpS Tryz.func74 rfl fun c₀ cs hu => ?_
  apply wpS_seq
  apply wpS_region
  simp [wpOpsS, go_sem, recoverD, hu, iz_, Tryz.ntmps74, Exit.thenS]
  refine wpS_cond (t := true) (by simp [Act.eval, Array.replicate]) ?_
  simp only [if_true]
  apply wpS_region
  simp [wpOpsS, go_sem, hc, hz, bodyPostS, results, Tryz.results74]
  exact ⟨_, rfl, g1, g2.permL hF.symm⟩
theorem ow_ (b : Nat) (w : World) : CallsD Tryz.prog 74 #[zp_ b 0] .returning w fun e u' w' => e = .returned (.tuple #[]) ∧ u' = .returning ∧ w' = w := by
  refine callsD_of_wpS Tryz.func74 rfl fun c₀ cs hu => ?_
  apply wpS_seq
  apply wpS_region
  simp [wpOpsS, go_sem, recoverD, hu, Tryz.ntmps74, Exit.thenS]
  refine wpS_cond (t := false) (by simp [Act.eval, Array.replicate]) ?_
  simp only [Bool.false_eq_true, if_false]
  refine wpS_of_wp (wp_skip ?_)
  cases c₀
  simp_all [bodyPostS, results, Tryz.results74]
theorem oo_ (b : Nat) (w : World) : (invoke (.fn (.func 74) #[zp_ b 0]) #[]).run Tryz.prog w = .ok (.enter 74 #[zp_ b 0]) w := by
  exact callable (P := Tryz.prog) Tryz.func74 rfl rfl #[zp_ b 0] w
theorem hc_ {v0 : Vw} {H0 F F' : Hp} {fr : Fr} {b : Nat} {x : Value} {X : Bool} (hX : X = false) (hx : Fr.get fr 4 = some (zp_ b 0)) (hF : F.Perm ((b, .cells #[x] 4 (0, 0)) :: F')) :
    gI_ (bodyPostD Tryz.prog Tryz.f32 (eS_ v0 H0 (fun y : {y : Bool // y = X} => .bool y.1) (fun _ => []) (fun _ => []))) ⟨56, [{ target := .fn (.func 74) #[zp_ b 0], args := #[] }]⟩ v0 H0 fr F :=
  panDf (F' := (b, .cells #[.bool false] 4 (0, 0)) :: F') ⟨false, hX.symm⟩ (oo_ b) (fun v t u hs => pU_ hF t u hs) (fun a v h1 h2 => by
    have e := h1.val 4 _ hx
    have hb := (h2.own _ List.mem_cons_self).1
    have hc : v.w.cell? ⟨b, 0, none⟩ = some (.bool false) := by simp [World.cell?, hb]
    simp [results, Tryz.results32, e, asAddr, cc_ bg_ hc]) (.refl _) rfl
theorem ph_ (p : List Pc) (pad : Option Addr) (pcap : Nat) (fs : List Fc) (fad : Option Addr) (fcap : Nat) (vb ab : Nat) (s : Stp) (k : Int) (hpl : p.length ≤ 10000000) : TriX Tryz.prog 77 #[zp_ vb 0, Stp.val s, .int .i64 k] [] [cp_ vb (.cells (dc_ (.slice pad p.length pcap) ab (.slice fad fs.length fcap)).toArray 83 (0, 0)), aY_ pad (List.flatMap Pc.cells p)] (fun _ : {u : Unit // en_ p s.piece k} => Pc.val (p.getD s.piece.toNat zpc)) (fun _ => []) (fun _ => []) (¬ en_ p s.piece k) := by
 refine bq_ Tryz.func77 rfl rfl Tryz.ntmps77 rfl fun v0 => ?_
 refine g_ (c_ (aM_ rfl rfl fun b1 => ?_))
 refine Z_ Tryz.zeroValue73 rfl fun b2 => ?_
 refine d_ (b_ rfl (g_ ?_))
 refine aW_ (by kernel_rfl) ?_
 refine P_ 23 [0, 1, 2, 3] (by kernel_rfl) (fun _ a b => ⟨a, b⟩) (m_ rfl (h_ G_ rfl rfl rfl q_) rfl (m_ rfl (n_ 1 B_ rfl rfl rfl) rfl ?_))
 refine bJ_ rfl (cw_ rfl rfl) rfl fun r1 hr1 => ?_
 refine m_ rfl (f_ rfl) rfl (O_ ?_)
 cases r1
 ·
  replace hr1 := of_decide_eq_false hr1
  refine P_ 1 [4, 5, 6, 7, 8, 9, 10, 11, 12, 13, 14, 15, 16, 17, 18, 19, 20, 21, 22, 23, 24, 25] (by kernel_rfl) (fun _ a b => ⟨a, b⟩) (z_ rfl rfl rfl rfl rfl (z_ rfl rfl rfl rfl rfl (z_ rfl rfl rfl rfl rfl (z_ rfl rfl rfl rfl rfl (z_ rfl rfl rfl rfl rfl (z_ rfl rfl rfl rfl rfl (z_ rfl rfl rfl rfl rfl (z_ rfl rfl rfl rfl rfl (m_ rfl (t_ rfl rfl) rfl ?_)))))))))
  refine m_ rfl (f_ rfl) rfl (z_ rfl rfl rfl rfl rfl (z_ rfl rfl rfl rfl rfl (z_ rfl rfl rfl rfl rfl (z_ rfl rfl rfl rfl rfl (z_ rfl rfl rfl rfl rfl (z_ rfl rfl rfl rfl rfl (z_ rfl rfl rfl rfl rfl (z_ rfl rfl rfl rfl rfl (z_ rfl rfl rfl rfl rfl ?_)))))))))
  refine z_ rfl rfl rfl rfl rfl (z_ rfl rfl rfl rfl rfl (m_ rfl (t_ rfl rfl) rfl (O_ (L_ 26 rfl (by kernel_rfl) (ao_ (dl_ false) rfl x_ (fun _ _ _ => by exact trivial) rfl (fun hb => cA_ ((fun hq => by unfold en_ at hq; omega))) fun ⟨_, hn1⟩ => ?_)))))
  try dsimp only
  cases hn1
 ·
  replace hr1 := of_decide_eq_true hr1
  refine P_ 13 [4, 5, 6, 7, 8, 9, 10, 11, 12, 13] (by kernel_rfl) (fun _ a b => ⟨a, b⟩) (r_ rfl rfl rfl (h_ G_ rfl rfl rfl q_) rfl (r_ rfl rfl rfl (n_ 1 B_ rfl rfl rfl) rfl (r_ rfl rfl rfl (f_ rfl) rfl (r_ rfl rfl rfl (bk_ rfl) rfl (r_ rfl rfl rfl (h_ bm_ rfl rfl rfl qb_) rfl (r_ rfl rfl rfl (dv_ Tryz.isAgg22 rfl (fun v _ h => by exact h.1) rfl) rfl (r_ rfl rfl rfl (aA_ cZ_ rfl) rfl ?_)))))))
  refine az_ rfl rfl rfl (au_ rfl rfl) rfl fun r2 hr2 => ?_
  refine m_ rfl (v_ rfl rfl) rfl (m_ rfl (f_ rfl) rfl (O_ ?_))
  cases r2
  ·
   replace hr2 := of_decide_eq_false hr2
   refine P_ 1 [14, 15, 16, 17, 18, 19, 20, 21, 22, 23, 24, 25] (by kernel_rfl) (fun _ a b => ⟨a, b⟩) (z_ rfl rfl rfl rfl rfl (z_ rfl rfl rfl rfl rfl (z_ rfl rfl rfl rfl rfl (z_ rfl rfl rfl rfl rfl (z_ rfl rfl rfl rfl rfl (z_ rfl rfl rfl rfl rfl (z_ rfl rfl rfl rfl rfl (z_ rfl rfl rfl rfl rfl (z_ rfl rfl rfl rfl rfl ?_)))))))))
   refine z_ rfl rfl rfl rfl rfl (z_ rfl rfl rfl rfl rfl (m_ rfl (t_ rfl rfl) rfl (O_ (L_ 26 rfl (by kernel_rfl) (ao_ (dl_ false) rfl x_ (fun _ _ _ => by exact trivial) rfl (fun hb => cA_ ((fun hq => by unfold en_ at hq; omega))) fun ⟨_, hn2⟩ => ?_)))))
   try dsimp only
   cases hn2
  ·
   replace hr2 := of_decide_eq_true hr2
   have hlx1 : (Int.toNat (Stp.piece s)) < List.length p := by omega
   obtain ⟨x1, hx1⟩ : ∃ e0, p[(Int.toNat (Stp.piece s))]? = some e0 := ⟨_, List.getElem?_eq_getElem hlx1⟩
   have hmx1 : x1 ∈ p := List.mem_of_getElem? hx1
   refine P_ 1 [14, 15, 16, 17, 18, 19, 20, 21, 22, 23, 24, 25] (by kernel_rfl) (fun _ a b => ⟨a, b⟩) (r_ rfl rfl rfl (f_ rfl) rfl (r_ rfl rfl rfl (bk_ rfl) rfl (r_ rfl rfl rfl (h_ bm_ rfl rfl rfl qb_) rfl (r_ rfl rfl rfl (dv_ Tryz.isAgg22 rfl (fun v _ h => by exact h.1) rfl) rfl (r_ rfl rfl rfl (h_ G_ rfl rfl rfl q_) rfl (r_ rfl rfl rfl (n_ 1 B_ rfl rfl rfl) rfl (r_ rfl rfl rfl (an_ cZ_ ay_ rfl rfl (fun v _ h => ba_ (n := 10) Pc.cells_len (by decide) (by exact h.2.1) hx1) (by omega) (by first | omega | (simp; done))) rfl (r_ rfl rfl rfl (do_ R_ rfl rfl rfl q_) rfl (r_ rfl rfl rfl (bE_ (ad := pad) B_ rfl (fun v _ h => by exact h.2.1) (ar_ Pc.cells_len hx1 0 _ rfl)) rfl ?_)))))))))
   refine r_ rfl rfl rfl (f_ rfl) rfl ?_
   refine az_ rfl rfl rfl (aG_ rfl rfl) rfl fun r3 hr3 => ?_
   refine m_ rfl (v_ rfl rfl) rfl (O_ (L_ 26 rfl (by kernel_rfl) (ao_ (dl_ r3) rfl x_ (fun _ _ _ => by exact trivial) rfl (fun hb => cA_ ((fun hq => by rw [hb] at hr3; have z := hq.2.2; rw [fp_ hx1] at z; rw [z] at hr3; simp at hr3))) fun ⟨_, hn3⟩ => ?_)))
   try dsimp only
   have hpk : en_ p (Stp.piece s) k := ⟨by omega, by omega, by rw [fp_ hx1]; exact eq_of_beq (hr3.trans hn3)⟩
   refine d_ (p_ rfl (D_ (fun _ a b => ⟨a, b⟩) (T_ (by kernel_rfl) (b_ rfl (g_ ?_)))))
   refine cn_ ((b1, .cells #[.int .i64 (Stp.rule s), .int .i64 (Fc.kind (Stp.fact s)), str (Fc.a (Stp.fact s)), str (Fc.b (Stp.fact s)), str (Fc.r (Stp.fact s)), .int .i64 (Fc.lo (Stp.fact s)), .int .i64 (Fc.hi (Stp.fact s)), .int .i64 (Stp.piece s), .slice (Stp.ad s) (List.length (Stp.frm s)) (Stp.cap s)] 36 (0, 0)) :: []) (by kernel_rfl) ?_
   refine P_ 1 [0, 1, 2, 3, 4, 5, 6, 7] (by kernel_rfl) (fun _ a b => ⟨a.tail, b⟩) (m_ rfl (f_ rfl) rfl (m_ rfl (bk_ rfl) rfl (m_ rfl (h_ bm_ rfl rfl rfl qb_) rfl (m_ rfl (dv_ Tryz.isAgg22 rfl (fun v _ h => by exact h.1) rfl) rfl (m_ rfl (h_ G_ rfl rfl rfl q_) rfl (m_ rfl (n_ 0 B_ rfl rfl rfl) rfl (m_ rfl (an_ cZ_ ay_ rfl rfl (fun v _ h => ba_ (n := 10) Pc.cells_len (by decide) (by exact h.2.1) hx1) (by omega) (by first | omega | (simp; done))) rfl (m_ rfl (aX_ (ad := pad) (us := Pc.cells x1) ho_ ay_ rfl (fun v _ h => by exact h.2.1) (Pc.cells_len _) (ar_ Pc.cells_len hx1)) rfl (O_ ?_)))))))))
   refine L_ 8 rfl (by kernel_rfl) (Q_ 0 ay_ rfl rfl rfl rfl rfl rfl (d_ (p_ rfl (D_ (fun _ a b => ⟨a.tail, b⟩) (T_ (by kernel_rfl) (b_ rfl (u_ ?_)))))))
   refine ci_ ?_
   exact et_ ⟨(), hpk⟩ (fun aa v h1 h2 => by rw [fp_ hx1]; exact cG_ (us := Pc.cells x1) 0 Tryz.results77 ho_ ay_ rfl rfl rfl aa v h1 h2) x_ (fun _ _ _ => trivial)
end Go.Proofs.YtaffcjgphlhppaaGreatDoor
namespace Go.Proofs.YtaffcjgphlhppaaGreatDoor
open Go Go.Sx Go.Proofs
attribute [local irreducible] Code.wp wpList wpAnyH
open Go.Vs
theorem fQ_ {α : Type} : ∀ {l : List α}, l.length = 2 → ∃ a b, l = [a, b]
  | [a, b], _ => ⟨a, b, rfl⟩
theorem rule_c (k : Int) (h1 : 1 ≤ k) (h2 : k ≤ 16) : ∃ g : FuncId, hn_[3 * k.toNat]? = some (.int .i64 (if_ k)) ∧ hn_[3 * k.toNat + 1]? = some (.int .i64 (dV_ k)) ∧ hn_[3 * k.toNat + 2]? = some (.func (.func g) #[] #[]) ∧
    ∀ (kn : Str → Bool) (q : List Str) (_ : ∀ s, kn s = true ↔ s ∈ q) (es : Array MapEntry) (ec : Nat) (_ : SetE str es q) (vb ab : Nat) (pv fv : Value) (x : Pc) (f : Fc) (lad : Option Addr) (lcap : Nat) (l : List Fc) (_ : (l.length : Int) = if_ k) (_ : ∀ y ∈ l, wf2 y = true) (_ : wf2 f = true) (_ : k = 14 → -1099511627776 ≤ x.lo ∧ x.lo ≤ x.hi ∧ x.hi ≤ 1099511627776),
    TriX Tryz.prog g #[.agg #[zp_ vb 0, .int .i64 f.kind, str f.a, str f.b, str f.r, .int .i64 f.lo, .int .i64 f.hi, .slice lad l.length lcap, .int .i64 x.kind, str x.a, str x.b, str x.c, str x.r, str x.s, str x.t, .int .i64 x.lo, .int .i64 x.hi, .int .i64 x.frm]] [] [cp_ vb (.cells (dc_ pv ab fv).toArray 83 (0, 0)), cp_ ab (.map es ec), aY_ lad (List.flatMap Fc.cells l)] (fun _ : Unit => .bool (hg_ kn k x f (l.getD 0 zfc) (l.getD 1 zfc))) (fun _ => []) (fun _ => []) (hg_ kn k x f (l.getD 0 zfc) (l.getD 1 zfc) = false) := by
  have hk : k = 1 ∨ k = 2 ∨ k = 3 ∨ k = 4 ∨ k = 5 ∨ k = 6 ∨ k = 7 ∨ k = 8 ∨ k = 9 ∨ k = 10 ∨ k = 11 ∨ k = 12 ∨ k = 13 ∨ k = 14 ∨ k = 15 ∨ k = 16 := by omega
  rcases hk with rfl | rfl | rfl | rfl | rfl | rfl | rfl | rfl | rfl | rfl | rfl | rfl | rfl | rfl | rfl | rfl
  · refine ⟨128, rfl, rfl, rfl, fun kn q hkn es ec hE vb ab pv fv x f lad lcap l hl hw wf hx => ?_⟩
    obtain rfl : l = [] := List.eq_nil_of_length_eq_zero (by have q : (l.length : Int) = 0 := hl; omega)
    exact ((px_ kn q hkn es ec hE vb ab pv fv x f lad lcap).toX _)
  · refine ⟨130, rfl, rfl, rfl, fun kn q hkn es ec hE vb ab pv fv x f lad lcap l hl hw wf hx => ?_⟩
    obtain rfl : l = [] := List.eq_nil_of_length_eq_zero (by have q : (l.length : Int) = 0 := hl; omega)
    exact ((pw_ kn q hkn es ec hE vb ab pv fv x f lad lcap).toX _)
  · refine ⟨131, rfl, rfl, rfl, fun kn q hkn es ec hE vb ab pv fv x f lad lcap l hl hw wf hx => ?_⟩
    obtain ⟨ga, rfl⟩ : ∃ ga, l = [ga] := List.length_eq_one_iff.1 (by have q : (l.length : Int) = 1 := hl; omega)
    exact ((pv_ kn q hkn es ec hE vb ab pv fv x f ga lad lcap).toX _)
  · refine ⟨132, rfl, rfl, rfl, fun kn q hkn es ec hE vb ab pv fv x f lad lcap l hl hw wf hx => ?_⟩
    obtain ⟨ga, gb, rfl⟩ : ∃ ga gb, l = [ga, gb] := fQ_ (by have q : (l.length : Int) = 2 := hl; omega)
    exact ((pu_ kn q hkn es ec hE vb ab pv fv x f ga gb lad lcap).toX _)
  · refine ⟨133, rfl, rfl, rfl, fun kn q hkn es ec hE vb ab pv fv x f lad lcap l hl hw wf hx => ?_⟩
    obtain ⟨ga, rfl⟩ : ∃ ga, l = [ga] := List.length_eq_one_iff.1 (by have q : (l.length : Int) = 1 := hl; omega)
    exact ((pt_ kn q hkn es ec hE vb ab pv fv x f ga lad lcap).toX _)
  · refine ⟨135, rfl, rfl, rfl, fun kn q hkn es ec hE vb ab pv fv x f lad lcap l hl hw wf hx => ?_⟩
    obtain ⟨ga, rfl⟩ : ∃ ga, l = [ga] := List.length_eq_one_iff.1 (by have q : (l.length : Int) = 1 := hl; omega)
    exact ((ps_ kn q hkn es ec hE vb ab pv fv x f ga lad lcap).toX _)
  · refine ⟨136, rfl, rfl, rfl, fun kn q hkn es ec hE vb ab pv fv x f lad lcap l hl hw wf hx => ?_⟩
    obtain ⟨ga, gb, rfl⟩ : ∃ ga gb, l = [ga, gb] := fQ_ (by have q : (l.length : Int) = 2 := hl; omega)
    exact ((pr_ kn q hkn es ec hE vb ab pv fv x f ga gb lad lcap).toX _)
  · refine ⟨137, rfl, rfl, rfl, fun kn q hkn es ec hE vb ab pv fv x f lad lcap l hl hw wf hx => ?_⟩
    obtain ⟨ga, gb, rfl⟩ : ∃ ga gb, l = [ga, gb] := fQ_ (by have q : (l.length : Int) = 2 := hl; omega)
    exact ((pq_ kn q hkn es ec hE vb ab pv fv x f ga gb lad lcap).toX _)
  · refine ⟨138, rfl, rfl, rfl, fun kn q hkn es ec hE vb ab pv fv x f lad lcap l hl hw wf hx => ?_⟩
    obtain ⟨ga, gb, rfl⟩ : ∃ ga gb, l = [ga, gb] := fQ_ (by have q : (l.length : Int) = 2 := hl; omega)
    exact ((pp_ kn q hkn es ec hE vb ab pv fv x f ga gb lad lcap).toX _)
  · refine ⟨139, rfl, rfl, rfl, fun kn q hkn es ec hE vb ab pv fv x f lad lcap l hl hw wf hx => ?_⟩
    obtain rfl : l = [] := List.eq_nil_of_length_eq_zero (by have q : (l.length : Int) = 0 := hl; omega)
    exact ((ok_ kn q hkn es ec hE vb ab pv fv x f lad lcap).toX _)
  · refine ⟨140, rfl, rfl, rfl, fun kn q hkn es ec hE vb ab pv fv x f lad lcap l hl hw wf hx => ?_⟩
    obtain ⟨ga, rfl⟩ : ∃ ga, l = [ga] := List.length_eq_one_iff.1 (by have q : (l.length : Int) = 1 := hl; omega)
    exact ((oj_ kn q hkn es ec hE vb ab pv fv x f ga lad lcap).toX _)
  · refine ⟨141, rfl, rfl, rfl, fun kn q hkn es ec hE vb ab pv fv x f lad lcap l hl hw wf hx => ?_⟩
    obtain ⟨ga, gb, rfl⟩ : ∃ ga gb, l = [ga, gb] := fQ_ (by have q : (l.length : Int) = 2 := hl; omega)
    exact (oi_ kn q hkn es ec hE vb ab pv fv x f ga gb lad lcap (hw _ (by simp)) (hw _ (by simp)) wf)
  · refine ⟨142, rfl, rfl, rfl, fun kn q hkn es ec hE vb ab pv fv x f lad lcap l hl hw wf hx => ?_⟩
    obtain ⟨ga, gb, rfl⟩ : ∃ ga gb, l = [ga, gb] := fQ_ (by have q : (l.length : Int) = 2 := hl; omega)
    exact (oh_ kn q hkn es ec hE vb ab pv fv x f ga gb lad lcap (hw _ (by simp)) (hw _ (by simp)))
  · refine ⟨143, rfl, rfl, rfl, fun kn q hkn es ec hE vb ab pv fv x f lad lcap l hl hw wf hx => ?_⟩
    obtain ⟨ga, rfl⟩ : ∃ ga, l = [ga] := List.length_eq_one_iff.1 (by have q : (l.length : Int) = 1 := hl; omega)
    exact (og_ kn q hkn es ec hE vb ab pv fv x f ga lad lcap (hw _ (by simp)) (hx rfl))
  · refine ⟨144, rfl, rfl, rfl, fun kn q hkn es ec hE vb ab pv fv x f lad lcap l hl hw wf hx => ?_⟩
    obtain ⟨ga, rfl⟩ : ∃ ga, l = [ga] := List.length_eq_one_iff.1 (by have q : (l.length : Int) = 1 := hl; omega)
    exact ((of_ kn q hkn es ec hE vb ab pv fv x f ga lad lcap).toX _)
  · refine ⟨145, rfl, rfl, rfl, fun kn q hkn es ec hE vb ab pv fv x f lad lcap l hl hw wf hx => ?_⟩
    obtain ⟨ga, rfl⟩ : ∃ ga, l = [ga] := List.length_eq_one_iff.1 (by have q : (l.length : Int) = 1 := hl; omega)
    exact (oe_ kn q hkn es ec hE vb ab pv fv x f ga lad lcap (hw _ (by simp)) wf)
theorem nr_ {P : Program} {N : Nf} {fr : Fr} {H : Hp} {Γ : List Fct} {ty t : TypeId} {x : Operand} {vb ab : Nat} {pv fv u0 u1 u2 : Value} {T : TypeId} {k : Nat} (ha : ∀ w, (isAgg t).run P w = .ok true w) (hs : ∀ w, (sizeOf t).run P w = .ok 3 w) (h0 : hn_[3 * k]? = some u0) (h1 : hn_[3 * k + 1]? = some u1) (h2 : hn_[3 * k + 2]? = some u2)
    (hx : Fr.ev fr x = some (.pointer (some ⟨vb, 3 + k * 3, none⟩))) (hv : ∀ v, v.sat H → aD_ Γ v → (cp_ vb (.cells (dc_ pv ab fv).toArray T (0, 0))).p v) : Yld P N fr H Γ (.load t x) ty (.agg #[u0, u1, u2]) :=
  fJ_ hx fun v g2 g4 => bX_ (n := 3) (cs := [u0, u1, u2]) ha hs rfl fun j y hj => by
    have hb := (hv v g2 g4).2
    have key : ∀ i, (dc_ pv ab fv)[3 + i]? = hn_[i]? := fun i => by rw [Nat.add_comm]; rfl
    have e : ∀ i u, hn_[3 * k + i]? = some u → v.w.cell? ⟨vb, 3 + k * 3 + i, none⟩ = some u := fun i u hu => by
      have := key (3 * k + i)
      rw [hu] at this
      simp only [World.cell?, hb]
      rw [show 3 + k * 3 + i = 3 + (3 * k + i) by omega]
      simpa using this
    match j with
    | 0 => simp at hj; subst hj; exact e 0 _ h0
    | 1 => simp at hj; subst hj; exact e 1 _ h1
    | 2 => simp at hj; subst hj; exact e 2 _ h2
    | j + 3 => simp at hj
theorem oF_ {p : List Pc} {fs : List Fc} {s : Stp} (h : ¬ (1 ≤ s.rule ∧ s.rule ≤ 16)) : dN_ p fs s = false := by
  rw [Bool.eq_false_iff]; intro q
  simp only [dN_, Bool.and_eq_true, decide_eq_true_eq] at q
  exact h ⟨q.1, q.2.1⟩
theorem corB_w {p : List Pc} {fs : List Fc} {s : Stp} (h : wf2 s.fact = false) : dN_ p fs s = false := by
  rw [Bool.eq_false_iff]; intro q
  simp only [dN_, Bool.and_eq_true, decide_eq_true_eq] at q
  rw [h] at q; exact absurd q.2.2.1 (by simp)
theorem corB_m {p : List Pc} {fs : List Fc} {s : Stp} (h : ¬ ke_ fs s.frm (if_ s.rule)) : dN_ p fs s = false := by
  rw [Bool.eq_false_iff]; intro q
  simp only [dN_, Bool.and_eq_true, decide_eq_true_eq] at q
  exact h ⟨q.2.2.2.1, q.2.2.2.2.1⟩
theorem oG_ {p : List Pc} {fs : List Fc} {s : Stp} (h : fB_ p s.rule s.piece = false) : dN_ p fs s = false := by
  rw [Bool.eq_false_iff]; intro q
  simp only [dN_, Bool.and_eq_true, decide_eq_true_eq] at q
  rw [h] at q; exact absurd q.2.2.2.2.2.1 (by simp)
theorem hz_ {p : List Pc} {fs : List Fc} {s : Stp} (hr : 1 ≤ s.rule ∧ s.rule ≤ 16) (wf : wf2 s.fact = true) (hm : ke_ fs s.frm (if_ s.rule)) (hp : fB_ p s.rule s.piece = true) :
    dN_ p fs s = hg_ (dL_ p) s.rule (jI_ p s.rule s.piece) s.fact ((cj_ fs s.frm).getD 0 zfc) ((cj_ fs s.frm).getD 1 zfc) := by
  unfold dN_
  rw [decide_eq_true hr.1, decide_eq_true hr.2, wf, decide_eq_true hm.1, hm.2, hp]
  simp only [Bool.true_and]
theorem kz_ {p : List Pc} {k q : Int} (hk : dV_ k = 0) : fB_ p k q = decide (q = -1) := if_pos hk
theorem ky_ {p : List Pc} {k q : Int} (hk : dV_ k ≠ 0) : fB_ p k q = true ↔ en_ p q (dV_ k) := by
  unfold fB_ en_
  rw [if_neg hk]
  simp only [Bool.and_eq_true, decide_eq_true_eq]
theorem iP_ {fs : List Fc} {frm : List Int} (h : fA_ fs frm = true) : ∀ y ∈ cj_ fs frm, wf2 y = true := fun y hy => by
  obtain ⟨q, hq, rfl⟩ := List.mem_map.1 hy
  exact (fk_ h hq).2.2
theorem hR_ {fs : List Fc} {frm : List Int} : (cj_ fs frm).length = frm.length := by simp [cj_]
theorem nX_ {a : Nat × Obj} {F : Hp} : List.Perm (a :: F) (a :: F) := .refl _
theorem qd_ {a b : Nat × Obj} {F : Hp} : List.Perm (b :: a :: F) (a :: b :: F) := .swap _ _ _
theorem mf_ {a b c : Nat × Obj} {F : Hp} : List.Perm (c :: b :: a :: F) (a :: c :: b :: F) := ((qd_ (F := F)).cons c).trans (.swap _ _ _)
theorem nS_ {P : Program} {N : Nf} {fr : Fr} {H : Hp} {fn : Func} {t b : Nat} {ty T : TypeId} {u : Value} (i : Nat) (hr : fn.results = #[.cell t ty]) (ha : ∀ w, (isAgg ty).run P w = .ok false w) (hx : Fr.get fr t = some (zp_ b 0)) (hi : H[i]? = some (b, .cells #[u] T (0, 0))) (a : Act) (v : Vw) (h1 : Fr.sat N fr a) (h2 : v.sat H) :
    (results fn a.tmps).run P v.w = .ok u v.w := by
  have e := h1.val t _ hx
  have hb := (h2.own _ (List.mem_of_getElem? hi)).1
  have hc : v.w.cell? ⟨b, 0, none⟩ = some u := by simp [World.cell?, hb]
  simp [results, hr, e, asAddr, cc_ ha hc]
theorem jn_ (p : List Pc) (pad : Option Addr) (pcap : Nat) (fs : List Fc) (fad : Option Addr) (fcap : Nat) (vb ab : Nat) (s : Stp) (q : List Str) (hkn : ∀ s, dL_ p s = true ↔ s ∈ q) (es : Array MapEntry) (ec : Nat) (hE : SetE str es q) (hpl : p.length ≤ 10000000) (hpv : ∀ k : Int, k = 14 → en_ p s.piece (dV_ k) → -1099511627776 ≤ (p.getD s.piece.toNat zpc).lo ∧ (p.getD s.piece.toNat zpc).lo ≤ (p.getD s.piece.toNat zpc).hi ∧ (p.getD s.piece.toNat zpc).hi ≤ 1099511627776) (hfl : fs.length ≤ 10000000) (hfr : s.frm.length ≤ 1000000) (hfs : ∀ x ∈ fs, x.sml) (hsf : s.fact.sml) : Tri Tryz.prog 32 #[zp_ vb 0, Stp.val s] [] [cp_ vb (.cells (dc_ (.slice pad p.length pcap) ab (.slice fad fs.length fcap)).toArray 83 (0, 0)), cp_ ab (.map es ec), aY_ pad (List.flatMap Pc.cells p), aY_ fad (List.flatMap Fc.cells fs), aY_ (Stp.ad s) (List.flatMap dg_ (Stp.frm s))] (fun y : {y : Bool // y = dN_ p fs s} => .bool y.1) (fun _ => []) (fun _ => []) := by
 refine gl_ Tryz.func32 rfl rfl Tryz.ntmps32 rfl fun v0 => ?_
 refine g_ (c_ (aM_ rfl rfl fun b1 => ?_))
 refine Z_ Tryz.zeroValue4 rfl fun b2 => ?_
 refine d_ (b_ rfl (g_ (c_ (a_ (dx_ rfl rfl) rfl (iV_ (N := 56) (D := []) rfl rfl rfl (d_ (b_ rfl (g_ (c_ ?_)))))))))
 refine a_ (h_ G_ rfl rfl rfl q_) rfl (a_ (n_ 1 B_ rfl rfl rfl) rfl (E_ (cw_ rfl rfl) rfl fun r1 hr1 => ?_))
 refine a_ (f_ rfl) rfl ?_
 cases r1
 ·
  replace hr1 := of_decide_eq_false hr1
  refine k_ rfl rfl rfl rfl (k_ rfl rfl rfl rfl (k_ rfl rfl rfl rfl (a_ (t_ rfl rfl) rfl (a_ (f_ rfl) rfl (k_ rfl rfl rfl rfl (k_ rfl rfl rfl rfl (k_ rfl rfl rfl rfl (a_ (t_ rfl rfl) rfl (ao_ (dl_ false) rfl x_ (fun _ _ _ => by exact trivial) rfl (fun hb => hc_ (x := .bool false) (X := dN_ p fs s) (oF_ (by omega)) rfl (nX_)) fun ⟨_, hn1⟩ => ?_)))))))))
  try dsimp only
  cases hn1
 ·
  replace hr1 := of_decide_eq_true hr1
  refine i_ rfl rfl (a_ (h_ G_ rfl rfl rfl q_) rfl (i_ rfl rfl (a_ (n_ 1 B_ rfl rfl rfl) rfl (i_ rfl rfl (E_ (au_ rfl rfl) rfl fun r2 hr2 => ?_)))))
  refine a_ (v_ rfl rfl) rfl (a_ (f_ rfl) rfl ?_)
  cases r2
  ·
   replace hr2 := of_decide_eq_false hr2
   refine k_ rfl rfl rfl rfl (k_ rfl rfl rfl rfl (k_ rfl rfl rfl rfl (a_ (t_ rfl rfl) rfl (ao_ (dl_ false) rfl x_ (fun _ _ _ => by exact trivial) rfl (fun hb => hc_ (x := .bool false) (X := dN_ p fs s) (oF_ (by omega)) rfl (nX_)) fun ⟨_, hn2⟩ => ?_))))
   try dsimp only
   cases hn2
  ·
   replace hr2 := of_decide_eq_true hr2
   refine i_ rfl rfl (a_ (h_ G_ rfl rfl rfl l_) rfl (i_ rfl rfl (a_ (M_ 1 U_ l_ rfl rfl rfl) rfl (i_ rfl rfl (ah_ (qf_ (Stp.fact s) hsf) rfl x_ (fun _ _ _ => by exact trivial) rfl fun r3 hr3 => ?_)))))
   refine a_ (v_ rfl rfl) rfl (ao_ (dl_ r3) rfl x_ (fun _ _ _ => by exact trivial) rfl (fun hb => hc_ (x := .bool false) (X := dN_ p fs s) (corB_w (hr3.trans hb)) rfl (nX_)) fun ⟨_, hn3⟩ => ?_)
   try dsimp only
   have wf : wf2 (Stp.fact s) = true := hr3.trans hn3
   have hru : 1 ≤ Stp.rule s ∧ Stp.rule s ≤ 16 := by omega
   obtain ⟨gk, hr0, hr1, hr2, hT⟩ := rule_c (Stp.rule s) hru.1 hru.2
   refine d_ (b_ rfl (g_ ?_))
   refine pb_ (ι := {y : Nat // True}) (fun y => [(0, zp_ vb 0), (3, zp_ b1 0), (4, zp_ b2 0), (5, zp_ y.1 0)]) (fun y => ((b1, .cells #[.int .i64 (Stp.rule s), .int .i64 (Fc.kind (Stp.fact s)), str (Fc.a (Stp.fact s)), str (Fc.b (Stp.fact s)), str (Fc.r (Stp.fact s)), .int .i64 (Fc.lo (Stp.fact s)), .int .i64 (Fc.hi (Stp.fact s)), .int .i64 (Stp.piece s), .slice (Stp.ad s) (List.length (Stp.frm s)) (Stp.cap s)] 36 (0, 0)) :: ((b2, .cells #[.bool false] 4 (0, 0)) :: ((y.1, .cells #[.int .i64 (if_ (Stp.rule s)), .int .i64 (dV_ (Stp.rule s)), .func (.func gk) #[] #[]] 80 (0, 0)) :: [])))) (fun y => [cp_ vb (.cells (dc_ (.slice pad p.length pcap) ab (.slice fad fs.length fcap)).toArray 83 (0, 0)), cp_ ab (.map es ec), aY_ pad (List.flatMap Pc.cells p), aY_ fad (List.flatMap Fc.cells fs), aY_ (Stp.ad s) (List.flatMap dg_ (Stp.frm s))]) ?_ ?_
   ·
    refine cn_ ((b2, .cells #[.bool false] 4 (0, 0)) :: ((b1, .cells #[.int .i64 (Stp.rule s), .int .i64 (Fc.kind (Stp.fact s)), str (Fc.a (Stp.fact s)), str (Fc.b (Stp.fact s)), str (Fc.r (Stp.fact s)), .int .i64 (Fc.lo (Stp.fact s)), .int .i64 (Fc.hi (Stp.fact s)), .int .i64 (Stp.piece s), .slice (Stp.ad s) (List.length (Stp.frm s)) (Stp.cap s)] 36 (0, 0)) :: [])) (by kernel_rfl) ?_
    refine P_ 2 [0, 1, 2, 3, 4, 5, 6] (by kernel_rfl) (fun _ a b => ⟨a, b⟩) (m_ rfl (f_ rfl) rfl (m_ rfl (h_ G_ rfl rfl rfl q_) rfl (m_ rfl (n_ 1 B_ rfl rfl rfl) rfl (m_ rfl (bk_ rfl) rfl (m_ rfl (h_ bm_ rfl rfl rfl Tryz.sizeOf81) rfl (m_ rfl (ch_ (ep_ (off := 3) Tryz.runUnderlying81 Tryz.sizeOf80 rfl rfl (by omega) (by omega)) (show _ = Value.pointer (some ⟨vb, 3 + (Int.toNat (Stp.rule s)) * 3, none⟩) from rfl)) rfl (m_ rfl (nr_ Tryz.isAgg80 Tryz.sizeOf80 hr0 hr1 hr2 rfl (fun v _ h => by exact h.1)) rfl (O_ (L_ 7 rfl (by kernel_rfl) ?_)))))))))
    refine Z_ Tryz.zeroValue80 rfl fun b3 => ?_
    refine d_ (p_ rfl (D_ (fun _ a b => ⟨a.tail, b⟩) (L_ 8 rfl (by kernel_rfl) (Q_ 0 Tryz.sizeOf80 rfl rfl rfl rfl rfl rfl (d_ (p_ rfl (D_ (fun _ a b => ⟨a.tail, b⟩) (T_ (by kernel_rfl) (gC_ rfl ?_)))))))))
    exact kJ_ ⟨b3, trivial⟩ ⟨rfl, rfl, rfl, rfl, trivial⟩ (N_ (F_ (F_ C_)) (N_ (F_ C_) C_)) (fun v _ h => by exact ⟨h.1, h.2.1, h.2.2.1, h.2.2.2.1, h.2.2.2.2.1, trivial⟩)
   ·
    rintro ⟨z3_7, _⟩
    dsimp only
    refine de_ [(0, zp_ vb 0), (3, zp_ b1 0), (4, zp_ b2 0), (5, zp_ z3_7 0)] ⟨rfl, rfl, rfl, rfl, trivial⟩ ?_
    refine b_ rfl (g_ (c_ (a_ (f_ rfl) rfl (a_ (M_ 0 bY_ ak_ rfl rfl rfl) rfl (a_ (h_ er_ rfl rfl rfl q_) rfl (a_ (n_ 2 B_ rfl rfl rfl) rfl (ao_ (lw_ p pad pcap fs fad fcap vb ab s (if_ (Stp.rule s)) hfl hfr hfs) rfl x_ (fun v _ h => by exact ⟨h.1, h.2.2.2.1, h.2.2.2.2.1, trivial⟩) rfl (fun hb => hc_ (x := .bool false) (X := dN_ p fs s) (corB_m hb) rfl (qd_)) fun ⟨⟨lad, lcap⟩, hPm⟩ => ?_)))))))
    try dsimp only
    refine a_ (e_ rfl) rfl (d_ (b_ rfl (g_ (c_ (Z_ Tryz.zeroValue73 rfl fun b4 => ?_)))))
    refine d_ (b_ rfl (g_ (g_ (c_ (a_ (h_ er_ rfl rfl rfl q_) rfl (a_ (n_ 3 B_ rfl rfl rfl) rfl (E_ (aG_ rfl rfl) rfl fun r4 hr4 => ?_)))))))
    refine d_ (b_ rfl ?_)
    cases r4
    ·
     replace hr4 := ne_of_beq_false hr4
     have hz : dV_ (Stp.rule s) ≠ 0 := by omega
     refine A_ rfl (c_ (a_ (f_ rfl) rfl (a_ (M_ 1 bY_ ak_ rfl rfl rfl) rfl (a_ (h_ er_ rfl rfl rfl q_) rfl (a_ (n_ 3 B_ rfl rfl rfl) rfl (ao_ (ph_ p pad pcap fs fad fcap vb ab s (dV_ (Stp.rule s)) hpl) rfl x_ (fun v _ h => by exact ⟨h.2.1, h.2.2.2.1, trivial⟩) rfl (fun hb => hc_ (x := .bool false) (X := dN_ p fs s) (oG_ (Bool.eq_false_iff.2 fun hq => hb ((ky_ hz).1 hq))) rfl (mf_)) fun ⟨_, hPk⟩ => ?_))))))
     try dsimp only
     have hpb : fB_ p (Stp.rule s) (Stp.piece s) = true := (ky_ hz).2 hPk
     have hpl8 : (List.getD p (Int.toNat (Stp.piece s)) zpc) = jI_ p (Stp.rule s) (Stp.piece s) := (if_neg hz).symm
     refine Q_ 0 ay_ rfl rfl rfl rfl rfl rfl (d_ (b_ rfl (g_ (c_ (a_ (h_ er_ rfl rfl rfl Tryz.sizeOf78) rfl (a_ (n_ 3 Tryz.isAgg78 rfl rfl rfl) rfl (a_ (f_ rfl) rfl (a_ (h_ G_ rfl rfl rfl l_) rfl (a_ (M_ 1 U_ l_ rfl rfl rfl) rfl ?_)))))))))
     refine a_ (f_ rfl) rfl (a_ (M_ 0 ho_ ay_ rfl rfl rfl) rfl (a_ (ax_ ma_ rfl rfl) rfl (fn_ (hT (dL_ p) q hkn es ec hE vb ab (.slice pad p.length pcap) (.slice fad fs.length fcap) (List.getD p (Int.toNat (Stp.piece s)) zpc) (Stp.fact s) lad lcap (cj_ fs (Stp.frm s)) (by rw [hR_]; exact hPm.1) (iP_ hPm.2) wf (fun h14 => hpv _ h14 hPk)) rfl rfl x_ (fun v _ h => by exact ⟨h.2.1, h.2.2.1, h.1, trivial⟩) rfl (fun hb => hc_ (x := .bool false) (X := dN_ p fs s) ((hz_ hru wf hPm hpb).trans (by rw [← hpl8]; exact hb)) rfl (mf_)) fun _ => ?_)))
     refine Q_ 2 aI_ rfl rfl rfl rfl rfl rfl (d_ (b_ rfl (u_ ?_)))
     have hfin : (hg_ (dL_ p) (Stp.rule s) (List.getD p (Int.toNat (Stp.piece s)) zpc) (Stp.fact s) (List.getD (cj_ fs (Stp.frm s)) 0 zfc) (List.getD (cj_ fs (Stp.frm s)) 1 zfc)) = dN_ p fs s := by have z := hz_ hru wf hPm hpb; rw [← hpl8] at z; exact z.symm
     exact nO_ (F := _) ⟨(hg_ (dL_ p) (Stp.rule s) (List.getD p (Int.toNat (Stp.piece s)) zpc) (Stp.fact s) (List.getD (cj_ fs (Stp.frm s)) 0 zfc) (List.getD (cj_ fs (Stp.frm s)) 1 zfc)), hfin⟩ (oo_ b2) (ow_ b2) (fun a v h1 h2 => nS_ 2 Tryz.results32 bg_ rfl rfl a v h1 h2) x_ (fun _ _ _ => trivial)
    ·
     replace hr4 := eq_of_beq hr4
     have hz : dV_ (Stp.rule s) = 0 := by omega
     refine w_ rfl (c_ (a_ (h_ G_ rfl rfl rfl q_) rfl (a_ (n_ 1 B_ rfl rfl rfl) rfl (E_ (aG_ rfl rfl) rfl fun r5 hr5 => ?_))))
     refine ao_ (dl_ r5) rfl x_ (fun _ _ _ => by exact trivial) rfl (fun hb => hc_ (x := .bool false) (X := dN_ p fs s) (oG_ (by rw [kz_ hz]; rw [hb] at hr5; simpa using hr5)) rfl (mf_)) fun ⟨_, hn4⟩ => ?_
     try dsimp only
     have hpb : fB_ p (Stp.rule s) (Stp.piece s) = true := by rw [kz_ hz]; have z := hr5.trans hn4; simpa using z
     have hpl8 : zpc = jI_ p (Stp.rule s) (Stp.piece s) := (if_pos hz).symm
     refine d_ (b_ rfl (g_ (c_ (a_ (h_ er_ rfl rfl rfl Tryz.sizeOf78) rfl (a_ (n_ 3 Tryz.isAgg78 rfl rfl rfl) rfl (a_ (f_ rfl) rfl (a_ (h_ G_ rfl rfl rfl l_) rfl (a_ (M_ 1 U_ l_ rfl rfl rfl) rfl (a_ (f_ rfl) rfl ?_)))))))))
     refine a_ (M_ 0 ho_ ay_ rfl rfl rfl) rfl (a_ (ax_ ma_ rfl rfl) rfl (fn_ (hT (dL_ p) q hkn es ec hE vb ab (.slice pad p.length pcap) (.slice fad fs.length fcap) (Pc.mk 0 [] [] [] [] [] [] 0 0 0) (Stp.fact s) lad lcap (cj_ fs (Stp.frm s)) (by rw [hR_]; exact hPm.1) (iP_ hPm.2) wf (fun h14 => (by have := hz; rw [h14] at this; exact absurd this (by decide)))) rfl rfl x_ (fun v _ h => by exact ⟨h.2.1, h.2.2.1, h.1, trivial⟩) rfl (fun hb => hc_ (x := .bool false) (X := dN_ p fs s) ((hz_ hru wf hPm hpb).trans (by rw [← hpl8]; exact hb)) rfl (mf_)) fun _ => ?_))
     refine Q_ 2 aI_ rfl rfl rfl rfl rfl rfl (d_ (b_ rfl (u_ ?_)))
     have hfin : (hg_ (dL_ p) (Stp.rule s) (Pc.mk 0 [] [] [] [] [] [] 0 0 0) (Stp.fact s) (List.getD (cj_ fs (Stp.frm s)) 0 zfc) (List.getD (cj_ fs (Stp.frm s)) 1 zfc)) = dN_ p fs s := by have z := hz_ hru wf hPm hpb; rw [← hpl8] at z; exact z.symm
     exact nO_ (F := _) ⟨(hg_ (dL_ p) (Stp.rule s) (Pc.mk 0 [] [] [] [] [] [] 0 0 0) (Stp.fact s) (List.getD (cj_ fs (Stp.frm s)) 0 zfc) (List.getD (cj_ fs (Stp.frm s)) 1 zfc)), hfin⟩ (oo_ b2) (ow_ b2) (fun a v h1 h2 => nS_ 2 Tryz.results32 bg_ rfl rfl a v h1 h2) x_ (fun _ _ _ => trivial)
end Go.Proofs.YtaffcjgphlhppaaGreatDoor
namespace Go.Proofs.YtaffcjgphlhppaaGreatDoor
open Go Go.Sx Go.Proofs
attribute [local irreducible] Code.wp wpList wpAnyH
open Go.Vs
theorem valid9 {x : Pc} (h : x.valid = true) (hk : x.kind = 9) : -1099511627776 ≤ x.lo ∧ x.lo ≤ x.hi ∧ x.hi ≤ 1099511627776 := by
  unfold Pc.valid at h
  split at h
  · simp at h
  rename_i h1
  split at h
  · simp at h
  rename_i h2
  rw [hk] at h2
  have : (nus 9).numbers = true := by decide
  simp only [this, true_and] at h2
  omega
theorem fe_ {p : List Pc} (h : cW_ p = 0) : p.length ≤ 16384 ∧ ∀ x ∈ p, x.valid = true := by
  unfold cW_ at h
  split at h
  · simp at h
  · split at h
    · rename_i h2; exact ⟨by omega, fun x hx => List.all_eq_true.1 h2 x hx⟩
    · simp at h
theorem hb_ {p : List Pc} (h : cW_ p = 0) (q : Int) : ∀ k : Int, k = 14 → en_ p q (dV_ k) → -1099511627776 ≤ (p.getD q.toNat zpc).lo ∧ (p.getD q.toNat zpc).lo ≤ (p.getD q.toNat zpc).hi ∧ (p.getD q.toNat zpc).hi ≤ 1099511627776 := fun k hk hq => by
  subst hk
  obtain ⟨h1, h2, h3⟩ := hq
  have hlt : q.toNat < p.length := by omega
  have e := List.getElem?_eq_getElem hlt
  rw [fp_ e] at h3 ⊢
  exact valid9 ((fe_ h).2 _ (List.getElem_mem hlt)) h3
theorem lL_ (p : List Pc) (pad : Option Addr) (pcap : Nat) (fs : List Fc) (fad : Option Addr) (fcap : Nat) (vb ab : Nat) (s : Stp) (q : List Str) (hkn : ∀ s, dL_ p s = true ↔ s ∈ q) (es : Array MapEntry) (ec : Nat) (hE : SetE str es q) (hc : cW_ p = 0) (hfl : fs.length ≤ 10000000) (hfr : s.frm.length ≤ 1000000) (hfs : ∀ x ∈ fs, x.sml) (hsf : s.fact.sml) : Tri Tryz.prog 32 #[zp_ vb 0, s.val] [(vb, .cells (dc_ (.slice pad p.length pcap) ab (.slice fad fs.length fcap)).toArray 83 (0, 0)), (ab, .map es ec)] [aY_ pad (List.flatMap Pc.cells p), aY_ fad (List.flatMap Fc.cells fs), aY_ (Stp.ad s) (List.flatMap dg_ (Stp.frm s))] (fun y : {y : Bool // y = dN_ p fs s} => .bool y.1) (fun _ => [(vb, .cells (dc_ (.slice pad p.length pcap) ab (.slice fad fs.length fcap)).toArray 83 (0, 0)), (ab, .map es ec)]) (fun _ => []) := by
  have T := kk_ (Γ0 := [aY_ pad (List.flatMap Pc.cells p), aY_ fad (List.flatMap Fc.cells fs), aY_ (Stp.ad s) (List.flatMap dg_ (Stp.frm s))]) [(vb, .cells (dc_ (.slice pad p.length pcap) ab (.slice fad fs.length fcap)).toArray 83 (0, 0)), (ab, .map es ec)] (jn_ p pad pcap fs fad fcap vb ab s q hkn es ec hE (by have := (fe_ hc).1; omega) (hb_ hc s.piece) hfl hfr hfs hsf) (fun v hB hv => ⟨hB _ List.mem_cons_self, hB _ (List.mem_cons_of_mem _ List.mem_cons_self), hv.1, hv.2.1, hv.2.2.1, trivial⟩)
  simpa using T
theorem gM_ {e sz n : Nat} {sv : Value} {xs : List Value} {Hr : Hp} (h : bi_ e sz sv n xs Hr) : ∃ ad cap, sv = .slice ad n cap ∧ ∀ v : Vw, (∀ p ∈ Hr, v.im p.1 ∧ v.w.heap[p.1]? = some p.2) → bV_ v ad xs := by
  have h0 := h
  obtain ⟨hl, ⟨rfl, rfl, rfl⟩ | ⟨g, cap, cur, rfl, rfl, h3, h4, h5, h6⟩⟩ := h0
  · exact ⟨none, 0, rfl, fun v _ => .inl (List.eq_nil_of_length_eq_zero (by simpa using hl))⟩
  · refine ⟨some ⟨g, 0, none⟩, cap, rfl, fun v hv => ?_⟩
    obtain ⟨ad, cp, e, _, _, _, hr⟩ := mH_ h hv
    simp only [Value.slice.injEq] at e
    rw [e.1]; exact hr
theorem lM_ (p : List Pc) (pad : Option Addr) (pcap : Nat) (fs : List Fc) (sv : Value) (HF : Hp) (hr : bi_ 24 6 sv fs.length (List.flatMap Fc.cells fs) HF) (vb ab : Nat) (s : Stp) (q : List Str) (hkn : ∀ s, dL_ p s = true ↔ s ∈ q) (es : Array MapEntry) (ec : Nat) (hE : SetE str es q) (hc : cW_ p = 0) (hfl : fs.length ≤ 10000000) (hfr : s.frm.length ≤ 1000000) (hfs : ∀ x ∈ fs, x.sml) (hsf : s.fact.sml) : Tri Tryz.prog 32 #[zp_ vb 0, s.val] ((vb, .cells (dc_ (.slice pad p.length pcap) ab sv).toArray 83 (0, 0)) :: (ab, .map es ec) :: HF) [aY_ pad (List.flatMap Pc.cells p), aY_ (Stp.ad s) (List.flatMap dg_ (Stp.frm s))] (fun y : {y : Bool // y = dN_ p fs s} => .bool y.1) (fun _ => (vb, .cells (dc_ (.slice pad p.length pcap) ab sv).toArray 83 (0, 0)) :: (ab, .map es ec) :: HF) (fun _ => []) := by
  obtain ⟨fad, fcap, rfl, hrow⟩ := gM_ hr
  have T := kk_ (Γ0 := [aY_ pad (List.flatMap Pc.cells p), aY_ (Stp.ad s) (List.flatMap dg_ (Stp.frm s))]) ((vb, .cells (dc_ (.slice pad p.length pcap) ab (.slice fad fs.length fcap)).toArray 83 (0, 0)) :: (ab, .map es ec) :: HF) (jn_ p pad pcap fs fad fcap vb ab s q hkn es ec hE (by have := (fe_ hc).1; omega) (hb_ hc s.piece) hfl hfr hfs hsf) (fun v hB hv => ⟨hB _ List.mem_cons_self, hB _ (List.mem_cons_of_mem _ List.mem_cons_self), hv.1, hrow v (fun x hx => hB x (List.mem_cons_of_mem _ (List.mem_cons_of_mem _ hx))), hv.2.1, trivial⟩)
  simpa using T
theorem jJ_ {P : Program} {N : Nf} {v0 : Vw} {H0 : Hp} {R : Exit → Act → World → Prop} {K : List Kt} {fr : Fr} {H F : Hp} {Γ : List Fct} {ops : Array Oper} {l : List Oper} {ty : TypeId} {ps : String} {af : Array Edge} {t : TypeId} {x y : Operand} {vb ab : Nat} {pv fv : Value} {T : TypeId} {ad : Option Addr} {n c : Nat} (hs : ∀ w, (sizeOf t).run P w = .ok 1 w)
    (hx : Fr.ev fr x = some (zp_ vb 2)) (hy : Fr.ev fr y = some (.slice ad n c)) (hp : H.Perm ([(vb, .cells (dc_ pv ab fv).toArray T (0, 0))] ++ F)) (ho : (Value.slice ad n c).oneCell' = true)
    (hk : Ops P R N v0 H0 ops l K fr ((vb, .cells (dc_ pv ab (.slice ad n c)).toArray T (0, 0)) :: F) Γ) : Ops P R N v0 H0 ops (⟨none, .store t x y, ty, ps, af, none⟩ :: l) K fr H Γ := by
  refine as_ hp (Q_ 0 hs hx hy rfl rfl (by rfl) (by simp only [Value.cells, List.all_cons, List.all_nil, ho, Bool.and_true]) ?_)
  simp only [List.cons_append, List.nil_append, List.set_cons_zero]
  exact hk
def mB_ (p : List Pc) (l : List Stp) : Prop := ∀ (j : Nat) (s : Stp), l[j]? = some s → dN_ p (fcs (l.take j)) s = true
def nq_ (p : List Pc) (f : Fc) (l : List Stp) (e : Int) : Prop :=
  (cW_ p ≠ 0 ∧ e = cW_ p) ∨ (cW_ p = 0 ∧ 65536 < l.length ∧ e = 2) ∨
  (cW_ p = 0 ∧ l.length ≤ 65536 ∧ ((mB_ p l ∧ (∃ t, l[l.length - 1]? = some t ∧ t.fact = f) ∧ e = 0) ∨ (¬ (mB_ p l ∧ ∃ t, l[l.length - 1]? = some t ∧ t.fact = f) ∧ e = 120)))
theorem jp_ {p : List Pc} {f : Fc} {l : List Stp} {e e' : Int} (h : nq_ p f l e) (h' : nq_ p f l e') : e = e' := by
  rcases h with ⟨a, rfl⟩ | ⟨a, b, rfl⟩ | ⟨a, b, ⟨c1, c2, rfl⟩ | ⟨c, rfl⟩⟩ <;> rcases h' with ⟨a', rfl⟩ | ⟨a', b', rfl⟩ | ⟨a', b', ⟨d1, d2, rfl⟩ | ⟨d, rfl⟩⟩ <;> first | rfl | (exfalso; omega) | exact absurd ⟨c1, c2⟩ d | exact absurd ⟨d1, d2⟩ c
theorem nl_ {p : List Pc} {f : Fc} {l : List Stp} {j : Nat} {s : Stp} (hc : cW_ p = 0) (hl : l.length ≤ 65536) (hs : l[j]? = some s) (hf : dN_ p (fcs (l.take j)) s = false) : nq_ p f l 120 :=
  .inr (.inr ⟨hc, hl, .inr ⟨fun q => by have := q.1 j s hs; rw [hf] at this; exact absurd this (by simp), rfl⟩⟩)
theorem lb_ {l : List Stp} {i : Nat} {s : Stp} (hs : l[i]? = some s) : fcs (l.take (i + 1)) = fcs (l.take i) ++ [s.fact] := by
  rw [List.take_add_one, hs, Option.toList_some, gh_]; rfl
theorem pN_ {l : List Stp} {i : Nat} (h : ∀ s ∈ l, s.fact.sml) : ∀ x ∈ fcs (l.take i), x.sml := fun x hx => by
  obtain ⟨s, hs, rfl⟩ := List.mem_map.1 hx
  exact h s (List.mem_of_mem_take hs)
theorem step_c (p : List Pc) (pad : Option Addr) (pcap : Nat) (fs : List Fc) (fad : Option Addr) (fcap : Nat) (s : Stp) (hpl : p.length ≤ 10000000) (hsm : ∀ x ∈ p, x.sm) (hfl : fs.length ≤ 10000000) (hfr : s.frm.length ≤ 1000000) (hfs : ∀ x ∈ fs, x.sml) (hsf : s.fact.sml) : Tri Tryz.prog 71 #[.slice pad (List.length p) pcap, .slice fad (List.length fs) fcap, Stp.val s] [] [aY_ pad (List.flatMap Pc.cells p), aY_ fad (List.flatMap Fc.cells fs), aY_ (Stp.ad s) (List.flatMap dg_ (Stp.frm s)), jx_] (fun y : {e : Int // cW_ p ≠ 0 ∧ e = cW_ p ∨ cW_ p = 0 ∧ e = if dN_ p fs s = true then 0 else 120} => .int .i64 y.1) (fun _ => []) (fun _ => []) := by
  refine S_ Tryz.func71 rfl rfl Tryz.ntmps71 rfl fun v0 => ?_
  refine g_ (c_ (aM_ rfl rfl fun b1 => ?_))
  refine a_ (e_ rfl) rfl (d_ (b_ rfl (g_ (g_ (c_ (a_ (f_ rfl) rfl (K_ (mz_ p pad pcap (by omega) hsm) rfl x_ (fun v _ h => by exact ⟨h.1, h.2.2.2.1, trivial⟩) rfl fun _ => ?_)))))))
  refine a_ (e_ rfl) rfl (d_ (b_ rfl (g_ (c_ (a_ (f_ rfl) rfl (E_ (bF_ rfl rfl) rfl fun r1 hr1 => ?_))))))
  refine d_ (b_ rfl ?_)
  cases r1
  · skip
    replace hr1 := bw_ hr1
    have hc : cW_ p = 0 := by omega
    refine A_ rfl (J_ (b_ rfl (g_ (c_ (a_ (f_ rfl) rfl (K_ (kG_ p pad pcap (by have := (fe_ hc).1; omega)) rfl x_ (fun v _ h => by exact ⟨h.1, trivial⟩) rfl fun ⟨⟨vb, ab, es, ec, q⟩, hVk⟩ => ?_))))))
    dsimp only
    obtain ⟨hE, hkn⟩ := hVk; dsimp only at hE hkn
    refine a_ (e_ rfl) rfl (d_ (b_ rfl (g_ (c_ (a_ (f_ rfl) rfl (a_ (f_ rfl) rfl (a_ (bk_ rfl) rfl (a_ (h_ bm_ rfl rfl rfl aN_) rfl (jJ_ aN_ rfl rfl C_ (by rfl) ?_)))))))))
    refine d_ (b_ rfl (g_ (g_ (c_ (a_ (f_ rfl) rfl (a_ (M_ 2 bY_ ak_ rfl rfl rfl) rfl (K_ (lL_ p pad pcap fs fad fcap vb ab s q hkn es ec hE hc hfl hfr hfs hsf) rfl (N_ C_ C_) (fun v _ h => by exact ⟨h.1, h.2.1, h.2.2.1, trivial⟩) rfl fun ⟨rc, hrc⟩ => ?_)))))))
    dsimp only
    refine a_ (bu_ rfl) rfl (d_ (b_ rfl ?_))
    cases rc
    · skip
      refine w_ rfl (g_ (c_ (a_ (e_ rfl) rfl (d_ (b_ rfl (u_ ?_))))))
      exact Y_ Tryz.results71 ⟨120, .inr ⟨hc, by rw [if_neg (by simp [*])]⟩⟩ rfl x_ (fun _ _ _ => trivial)
    · skip
      refine A_ rfl (J_ (b_ rfl (g_ (c_ (a_ (e_ rfl) rfl (d_ (b_ rfl (u_ ?_))))))))
      exact Y_ Tryz.results71 ⟨0, .inr ⟨hc, by rw [if_pos (by simp [*])]⟩⟩ rfl x_ (fun _ _ _ => trivial)
  · skip
    replace hr1 := bv_ hr1
    refine w_ rfl (g_ (c_ (a_ (f_ rfl) rfl (a_ (e_ rfl) rfl (d_ (b_ rfl (u_ ?_)))))))
    exact Y_ Tryz.results71 ⟨(cW_ p), .inl ⟨by omega, rfl⟩⟩ rfl x_ (fun _ _ _ => trivial)
theorem jq_ (p : List Pc) (pad : Option Addr) (pcap : Nat) (f : Fc) (l : List Stp) (ad : Option Addr) (cap : Nat) (hpl : p.length ≤ 10000000) (hsm : ∀ x ∈ p, x.sm) (hll : l.length ≤ 10000000) (hfr : ∀ s ∈ l, s.frm.length ≤ 1000000) (hsf : ∀ s ∈ l, s.fact.sml) : Tri Tryz.prog 12 #[.slice pad (List.length p) pcap, Fc.val f, .agg #[.slice ad (List.length l) cap]] [] [aY_ pad (List.flatMap Pc.cells p), aY_ ad (List.flatMap Stp.cells l), cP_ l, jx_] (fun y : {e : Int // nq_ p f l e} => .int .i64 y.1) (fun _ => []) (fun _ => []) := by
 refine S_ Tryz.func12 rfl rfl Tryz.ntmps12 rfl fun v0 => ?_
 refine g_ (c_ (aM_ rfl rfl fun b1 => ?_))
 refine aM_ rfl rfl fun b2 => ?_
 refine a_ (e_ rfl) rfl (d_ (b_ rfl (g_ (g_ (c_ (a_ (f_ rfl) rfl (K_ (mz_ p pad pcap (by omega) hsm) rfl x_ (fun v _ h => by exact ⟨h.1, h.2.2.2.1, trivial⟩) rfl fun _ => ?_)))))))
 refine a_ (e_ rfl) rfl (d_ (b_ rfl (g_ (c_ (a_ (f_ rfl) rfl (E_ (bF_ rfl rfl) rfl fun r1 hr1 => ?_))))))
 refine d_ (b_ rfl ?_)
 cases r1
 ·
  replace hr1 := bw_ hr1
  have hc : cW_ p = 0 := by omega
  refine A_ rfl (J_ (b_ rfl (g_ (g_ (c_ (a_ (h_ ab_ rfl rfl rfl al_) rfl (a_ (n_ 0 bd_ rfl rfl rfl) rfl (a_ (aA_ af_ rfl) rfl (E_ (bp_ rfl rfl) rfl fun r2 hr2 => ?_)))))))))
  refine d_ (b_ rfl ?_)
  cases r2
  ·
   replace hr2 := of_decide_eq_false hr2
   have hl6 : List.length l ≤ 65536 := by omega
   refine A_ rfl (J_ (b_ rfl (g_ (c_ (a_ (f_ rfl) rfl (K_ (kG_ p pad pcap (by have := (fe_ hc).1; omega)) rfl x_ (fun v _ h => by exact ⟨h.1, trivial⟩) rfl fun ⟨⟨vb, ab, es, ec, q⟩, hVk⟩ => ?_))))))
   dsimp only
   obtain ⟨hE, hkn⟩ := hVk; dsimp only at hE hkn
   refine a_ (e_ rfl) rfl (d_ (b_ rfl (g_ (g_ (c_ (a_ (h_ ab_ rfl rfl rfl al_) rfl (a_ (n_ 2 bd_ rfl rfl rfl) rfl (a_ (aA_ af_ rfl) rfl (a_ (f_ rfl) rfl ?_)))))))))
   refine d_ (b_ rfl (ae_ ?_))
   refine bt_ (ι := {y : Nat × Value × Hp // y.1 ≤ List.length l ∧ (∀ (j : Nat) (s9 : Stp), l[j]? = some s9 → j < y.1 → dN_ p (fcs (List.take j l)) s9 = true) ∧ bi_ 24 6 y.2.1 (List.length (fcs (List.take y.1 l))) (List.flatMap Fc.cells (fcs (List.take y.1 l))) y.2.2}) (fun y => [(4, zp_ b1 0), (5, zp_ b2 0), (8, zp_ vb 0), (24, .slice ad (List.length l) cap), (25, .int .i64 (List.length l : Int)), (26, .int .i64 (y.1.1 : Int))]) (fun y => ((b1, .cells (Fc.cells f).toArray 24 (0, 0)) :: ((b2, .cells #[.slice ad (List.length l) cap] 27 (0, 0)) :: ((vb, .cells (dc_ (.slice pad p.length pcap) ab y.1.2.1).toArray 83 (0, 0)) :: ((ab, .map es ec) :: y.1.2.2))))) (fun y => [aY_ pad (List.flatMap Pc.cells p), aY_ ad (List.flatMap Stp.cells l), cP_ l, jx_]) (fun y => List.length l - y.1.1) ⟨((0 : Nat), (.slice none 0 0), []), by simp, fun j s9 _ h => by omega, (bi_.nil 24 6)⟩ ⟨rfl, rfl, rfl, rfl, rfl, rfl, trivial⟩ (N_ (F_ (F_ (F_ C_))) (N_ (F_ (F_ C_)) (N_ C_ C_))) (fun _ _ h => h) ?_
   rintro ⟨⟨i, sv_F, H_F⟩, hi, hSt, hr_F⟩
   dsimp only at hi hSt hr_F ⊢
   refine g_ (c_ (E_ (au_ rfl rfl) rfl fun r3 hr3 => ?_))
   refine d_ (b_ rfl (g_ ?_))
   cases r3
   ·
    replace hr3 := of_decide_eq_false hr3
    refine A_ rfl (bj_ rfl (b_ rfl (g_ (g_ (c_ (a_ (h_ ab_ rfl rfl rfl al_) rfl (a_ (n_ 1 bd_ rfl rfl rfl) rfl (a_ (aA_ af_ rfl) rfl (a_ (e_ rfl) rfl ?_)))))))))
    refine d_ (b_ rfl (g_ ?_))
    refine aW_ (by kernel_rfl) ?_
    refine P_ 10 [0, 1, 2] (by kernel_rfl) (fun _ a b => ⟨a, b⟩) (m_ rfl (f_ rfl) rfl ?_)
    refine bJ_ rfl (aG_ rfl rfl) rfl fun r4 hr4 => ?_
    refine m_ rfl (f_ rfl) rfl (O_ ?_)
    cases r4
    ·
     replace hr4 := ne_of_beq_false hr4
     have hlz : List.length l - 1 < List.length l := by omega
     obtain ⟨xl, hxl⟩ : ∃ e0, l[List.length l - 1]? = some e0 := ⟨_, List.getElem?_eq_getElem hlz⟩
     have hmxl : xl ∈ l := List.mem_of_getElem? hxl
     refine P_ 0 [3, 4, 5, 6, 7, 8, 9, 10, 11, 12] (by kernel_rfl) (fun _ a b => ⟨a, b⟩) (r_ rfl rfl rfl (h_ ab_ rfl rfl rfl al_) rfl (r_ rfl rfl rfl (n_ 1 bd_ rfl rfl rfl) rfl (r_ rfl rfl rfl (f_ rfl) rfl (r_ rfl rfl rfl (ag_ rfl rfl rfl (aS_ (by omega) (by omega))) rfl (r_ rfl rfl rfl (an_ af_ ak_ rfl rfl (fun v _ h => ba_ (n := 9) Stp.cells_len (by decide) (by exact h.2.1) (show l[((List.length l : Int) - 1).toNat]? = some xl by rw [show ((List.length l : Int) - 1).toNat = List.length l - 1 by omega]; exact hxl)) (by omega) (by first | omega | (simp; done))) rfl (r_ rfl rfl rfl (do_ G_ rfl rfl rfl l_) rfl (r_ rfl rfl rfl (aX_ (ad := ad) (us := Fc.cells (Stp.fact xl)) U_ l_ rfl (fun v _ h => by exact h.2.1) rfl (mE_ 1 (ar_ Stp.cells_len (show l[((List.length l : Int) - 1).toNat]? = some xl by rw [show ((List.length l : Int) - 1).toNat = List.length l - 1 by omega]; exact hxl)) (Stp.fact_cells xl))) rfl (r_ rfl rfl rfl (M_ 0 U_ l_ rfl rfl rfl) rfl ?_))))))))
     refine az_ rfl rfl rfl (iD_ (p := (Stp.fact xl)) (q := f) rfl rfl) rfl fun r5 hr5 => ?_
     refine m_ rfl (t_ rfl rfl) rfl (O_ (T_ (by kernel_rfl) (b_ rfl ?_)))
     cases r5
     ·
      replace hr5 := of_decide_eq_false hr5
      refine A_ rfl (J_ (b_ rfl (g_ (c_ (a_ (e_ rfl) rfl (d_ (b_ rfl (u_ ?_))))))))
      exact Y_ hN_ ⟨0, .inr (.inr ⟨hc, hl6, .inl ⟨fun j s9 hj => hSt j s9 hj (by have := (List.getElem?_eq_some_iff.1 hj).1; omega), ⟨xl, hxl, by first | assumption | exact Decidable.not_not.1 (by assumption)⟩, rfl⟩⟩)⟩ rfl x_ (fun _ _ _ => trivial)
     ·
      replace hr5 := of_decide_eq_true hr5
      refine w_ rfl (g_ (c_ (a_ (e_ rfl) rfl (d_ (b_ rfl (u_ ?_))))))
      exact Y_ hN_ ⟨120, .inr (.inr ⟨hc, hl6, .inr ⟨fun z => by obtain ⟨_, t9, h9, h8⟩ := z; rw [hxl] at h9; obtain rfl := Option.some.inj h9; exact absurd h8 (by assumption), rfl⟩⟩)⟩ rfl x_ (fun _ _ _ => trivial)
    ·
     replace hr4 := eq_of_beq hr4
     refine P_ 0 [3, 4, 5, 6, 7, 8, 9, 10, 11, 12] (by kernel_rfl) (fun _ a b => ⟨a, b⟩) (z_ rfl rfl rfl rfl rfl (z_ rfl rfl rfl rfl rfl (z_ rfl rfl rfl rfl rfl (z_ rfl rfl rfl rfl rfl (z_ rfl rfl rfl rfl rfl (z_ rfl rfl rfl rfl rfl (z_ rfl rfl rfl rfl rfl (z_ rfl rfl rfl rfl rfl (z_ rfl rfl rfl rfl rfl ?_)))))))))
     refine m_ rfl (v_ rfl rfl) rfl (O_ (T_ (by kernel_rfl) (b_ rfl (w_ rfl (g_ (c_ (a_ (e_ rfl) rfl (d_ (b_ rfl ?_)))))))))
     refine u_ ?_
     exact Y_ hN_ ⟨120, .inr (.inr ⟨hc, hl6, .inr ⟨fun z => by obtain ⟨_, t9, h9, h8⟩ := z; have := (List.getElem?_eq_some_iff.1 h9).1; omega, rfl⟩⟩)⟩ rfl x_ (fun _ _ _ => trivial)
   ·
    replace hr3 := of_decide_eq_true hr3
    have hlx1 : i < List.length l := by omega
    obtain ⟨x1, hx1⟩ : ∃ e0, l[i]? = some e0 := ⟨_, List.getElem?_eq_getElem hlx1⟩
    have hmx1 : x1 ∈ l := List.mem_of_getElem? hx1
    refine w_ rfl (J_ (b_ rfl (g_ (ae_ (g_ (c_ (a_ (an_ af_ ak_ rfl rfl (fun v _ h => ba_ (n := 9) Stp.cells_len (by decide) (by exact h.2.1) hx1) (by omega) (by first | omega | (simp; done))) rfl (a_ (aX_ (ad := ad) (us := Stp.cells x1) bY_ ak_ rfl (fun v _ h => by exact h.2.1) (Stp.cells_len _) (ar_ Stp.cells_len hx1)) rfl (Z_ bb_ rfl fun b3 => ?_)))))))))
    refine Q_ 0 ak_ rfl rfl rfl rfl rfl rfl (d_ (b_ rfl (g_ (g_ (c_ (a_ (f_ rfl) rfl (a_ (M_ 0 bY_ ak_ rfl rfl rfl) rfl (K_ (lM_ p pad pcap (fcs (List.take i l)) sv_F H_F hr_F vb ab x1 q hkn es ec hE hc (by rw [ec_, List.length_take]; omega) (hfr x1 hmx1) (pN_ hsf) (hsf x1 hmx1)) rfl (N_ (F_ (F_ (F_ C_))) (N_ (F_ (F_ (F_ C_))) (F_ (F_ aK_)))) (fun v _ h => by exact ⟨h.1, (h.2.2.1 x1 hmx1), trivial⟩) rfl fun ⟨rc, hrc⟩ => ?_))))))))
    dsimp only
    simp only [List.cons_append, List.append_assoc, List.append_nil]
    refine a_ (bu_ rfl) rfl (d_ (b_ rfl ?_))
    cases rc
    ·
     refine w_ rfl (as_ (cE_ C_ (cE_ C_ (cE_ (aQ_ C_) (cE_ (aQ_ C_) (eh_ cD_))))) (g_ (c_ (a_ (e_ rfl) rfl (d_ (b_ rfl (u_ ?_)))))))
     exact Y_ hN_ ⟨120, nl_ hc hl6 hx1 hrc.symm⟩ rfl x_ (fun _ _ _ => trivial)
    ·
     refine A_ rfl (J_ (b_ rfl (as_ (cE_ C_ (cE_ C_ (cE_ (aQ_ C_) (cE_ (aQ_ C_) (eh_ cD_))))) ?_)))
     refine cn_ ((ab, .map es ec) :: ((b3, .cells #[.int .i64 (Stp.rule x1), .int .i64 (Fc.kind (Stp.fact x1)), str (Fc.a (Stp.fact x1)), str (Fc.b (Stp.fact x1)), str (Fc.r (Stp.fact x1)), .int .i64 (Fc.lo (Stp.fact x1)), .int .i64 (Fc.hi (Stp.fact x1)), .int .i64 (Stp.piece x1), .slice (Stp.ad x1) (List.length (Stp.frm x1)) (Stp.cap x1)] 36 (0, 0)) :: ((b1, .cells (Fc.cells f).toArray 24 (0, 0)) :: ((b2, .cells #[.slice ad (List.length l) cap] 27 (0, 0)) :: [])))) (by kernel_rfl) ?_
     refine P_ 6 [0, 1, 2, 3, 5, 6] (by kernel_rfl) (fun _ a b => ⟨Vw.sat.sub (a.perm (N_ (F_ C_) (N_ (F_ C_) (N_ (F_ C_) (F_ C_))))), b⟩) (m_ rfl (f_ rfl) rfl (m_ rfl (f_ rfl) rfl (m_ rfl (bk_ rfl) rfl (m_ rfl (h_ bm_ rfl rfl rfl aN_) rfl (m_ rfl (h_ G_ rfl rfl rfl l_) rfl (m_ rfl (M_ 1 U_ l_ rfl rfl rfl) rfl (O_ ?_)))))))
     refine cm_ 4 7 rfl rfl (by kernel_rfl) ?_ ?_
     ·
      refine a_ (n_ 0 bn_ rfl rfl rfl) rfl (d_ (p_ rfl (D_ (fun _ a b => ⟨Vw.sat.sub (a.perm (N_ (F_ C_) (N_ (F_ C_) (N_ (F_ C_) (F_ C_))))), b⟩) (L_ 7 rfl (by kernel_rfl) (be_ ai_ l_ bl_ rfl rfl rfl rfl rfl rfl fun b4 => ?_)))))
      refine bU_ (List.flatMap Fc.cells [(Stp.fact x1)]) C_ rfl ?_
      refine d_ (p_ rfl (D_ (fun _ a b => ⟨Vw.sat.sub (a.perm (N_ (F_ C_) (N_ (F_ C_) (N_ (F_ C_) (F_ C_))))), b.2⟩) (L_ 8 rfl (by kernel_rfl) (eH_ (news := List.flatMap Fc.cells [(Stp.fact x1)]) lK_ hr_F rfl rfl (fun q => by cases q) (by simp) (F_ (F_ (F_ (F_ aK_)))) (by rw [eR_ Fc.cells 6 Fc.cells_len]; rfl) (fun v _ h => by exact h.1) (fun u hu => bH_ Fc.cells_one hu) (by simp only [maxLen]; (first | omega | (rw [ec_, List.length_take]; omega) | (simp only [ec_, List.length_take]; omega))) (by (first | omega | (rw [ec_, List.length_take]; omega) | (simp only [ec_, List.length_take]; omega))) rfl fun sv1 Hr1 hr1 => ?_))))
      refine as_ List.perm_append_comm ?_
      have hq1 : bi_ 24 6 sv1 (List.length ((fcs (List.take i l)) ++ [(Stp.fact x1)])) (List.flatMap Fc.cells ((fcs (List.take i l)) ++ [(Stp.fact x1)])) Hr1 := by rw [List.length_append, List.flatMap_append]; exact hr1
      refine d_ (p_ rfl (D_ (fun _ a b => ⟨Vw.sat.sub (a.perm (N_ (F_ C_) (N_ (F_ C_) (N_ (F_ C_) (F_ C_))))), b.2⟩) (P_ 1 [9, 10] (by kernel_rfl) (fun _ a b => ⟨Vw.sat.sub (a.perm (N_ (F_ C_) (N_ (F_ C_) (N_ (F_ C_) (F_ C_))))), b.2⟩) (m_ rfl (bk_ rfl) rfl (m_ rfl (h_ bm_ rfl rfl rfl aN_) rfl (O_ (L_ 11 rfl (by kernel_rfl) ?_)))))))
      obtain ⟨ad9, cp9, hsv9, _⟩ := gM_ hq1
      refine jJ_ (ad := ad9) (n := List.length ((fcs (List.take i l)) ++ [(Stp.fact x1)])) (c := cp9) aN_ rfl (by rw [← hsv9]; rfl) C_ (by rw [← hsv9]; exact (eV_ hq1).2) ?_
      rw [← hsv9]
      refine d_ (p_ rfl (D_ (fun _ a b => ⟨Vw.sat.sub (a.perm (N_ (F_ C_) (N_ (F_ C_) (N_ (F_ C_) (F_ C_))))), b.2⟩) (T_ (by kernel_rfl) (b_ rfl (c_ (a_ (ag_ rfl rfl rfl (aS_ (by omega) (by omega))) rfl (a_ (f_ rfl) rfl (d_ (p_ rfl ?_)))))))))
      exact aU_ ⟨(i + 1, sv1, Hr1), hlx1, (fun j s9 hj hji => by rcases Nat.lt_or_ge j i with z | z; exact hSt j s9 hj z; obtain rfl : j = i := (by omega); rw [hx1] at hj; obtain rfl := Option.some.inj hj; exact hrc.symm), (by have z := hq1; rw [← lb_ hx1] at z; exact z)⟩ (by dsimp only; omega) ⟨rfl, rfl, rfl, rfl, rfl, rfl, trivial⟩ (N_ (F_ (F_ (F_ C_))) (N_ (F_ (F_ (F_ C_))) (N_ C_ (N_ C_ aK_)))) (fun _ _ h => h.2)
     ·
      refine be_ ai_ l_ bl_ rfl rfl rfl rfl rfl rfl fun b5 => ?_
      refine bU_ (List.flatMap Fc.cells [(Stp.fact x1)]) C_ rfl ?_
      refine d_ (p_ rfl (D_ (fun _ a b => ⟨Vw.sat.sub (a.perm (N_ (F_ C_) (N_ (F_ C_) (N_ (F_ C_) (F_ C_))))), b.2⟩) (L_ 4 rfl (by kernel_rfl) (a_ (n_ 0 bn_ rfl rfl rfl) rfl (d_ (p_ rfl (D_ (fun _ a b => ⟨Vw.sat.sub (a.perm (N_ (F_ C_) (N_ (F_ C_) (N_ (F_ C_) (F_ C_))))), b.2⟩) (L_ 8 rfl (by kernel_rfl) (eH_ (news := List.flatMap Fc.cells [(Stp.fact x1)]) lK_ hr_F rfl rfl (fun q => by cases q) (by simp) (F_ (F_ (F_ (F_ aK_)))) (by rw [eR_ Fc.cells 6 Fc.cells_len]; rfl) (fun v _ h => by exact h.1) (fun u hu => bH_ Fc.cells_one hu) (by simp only [maxLen]; (first | omega | (rw [ec_, List.length_take]; omega) | (simp only [ec_, List.length_take]; omega))) (by (first | omega | (rw [ec_, List.length_take]; omega) | (simp only [ec_, List.length_take]; omega))) rfl fun sv2 Hr2 hr2 => ?_)))))))))
      refine as_ List.perm_append_comm ?_
      have hq2 : bi_ 24 6 sv2 (List.length ((fcs (List.take i l)) ++ [(Stp.fact x1)])) (List.flatMap Fc.cells ((fcs (List.take i l)) ++ [(Stp.fact x1)])) Hr2 := by rw [List.length_append, List.flatMap_append]; exact hr2
      refine d_ (p_ rfl (D_ (fun _ a b => ⟨Vw.sat.sub (a.perm (N_ (F_ C_) (N_ (F_ C_) (N_ (F_ C_) (F_ C_))))), b.2⟩) (P_ 1 [9, 10] (by kernel_rfl) (fun _ a b => ⟨Vw.sat.sub (a.perm (N_ (F_ C_) (N_ (F_ C_) (N_ (F_ C_) (F_ C_))))), b.2⟩) (m_ rfl (bk_ rfl) rfl (m_ rfl (h_ bm_ rfl rfl rfl aN_) rfl (O_ (L_ 11 rfl (by kernel_rfl) ?_)))))))
      obtain ⟨ad9, cp9, hsv9, _⟩ := gM_ hq2
      refine jJ_ (ad := ad9) (n := List.length ((fcs (List.take i l)) ++ [(Stp.fact x1)])) (c := cp9) aN_ rfl (by rw [← hsv9]; rfl) C_ (by rw [← hsv9]; exact (eV_ hq2).2) ?_
      rw [← hsv9]
      refine d_ (p_ rfl (D_ (fun _ a b => ⟨Vw.sat.sub (a.perm (N_ (F_ C_) (N_ (F_ C_) (N_ (F_ C_) (F_ C_))))), b.2⟩) (T_ (by kernel_rfl) (b_ rfl (c_ (a_ (ag_ rfl rfl rfl (aS_ (by omega) (by omega))) rfl (a_ (f_ rfl) rfl (d_ (p_ rfl ?_)))))))))
      exact aU_ ⟨(i + 1, sv2, Hr2), hlx1, (fun j s9 hj hji => by rcases Nat.lt_or_ge j i with z | z; exact hSt j s9 hj z; obtain rfl : j = i := (by omega); rw [hx1] at hj; obtain rfl := Option.some.inj hj; exact hrc.symm), (by have z := hq2; rw [← lb_ hx1] at z; exact z)⟩ (by dsimp only; omega) ⟨rfl, rfl, rfl, rfl, rfl, rfl, trivial⟩ (N_ (F_ (F_ (F_ C_))) (N_ (F_ (F_ (F_ C_))) (N_ C_ (N_ C_ aK_)))) (fun _ _ h => h.2)
  ·
   replace hr2 := of_decide_eq_true hr2
   refine w_ rfl (g_ (c_ (a_ (e_ rfl) rfl (d_ (b_ rfl (u_ ?_))))))
   exact Y_ hN_ ⟨2, .inr (.inl ⟨by omega, by omega, rfl⟩)⟩ rfl x_ (fun _ _ _ => trivial)
 ·
  replace hr1 := bv_ hr1
  refine w_ rfl (g_ (c_ (a_ (f_ rfl) rfl (a_ (e_ rfl) rfl (d_ (b_ rfl (u_ ?_)))))))
  exact Y_ hN_ ⟨(cW_ p), .inl ⟨by omega, rfl⟩⟩ rfl x_ (fun _ _ _ => trivial)
end Go.Proofs.YtaffcjgphlhppaaGreatDoor
namespace Go.Proofs.YtaffcjgphlhppaaGreatDoor
open Go Go.Sx Go.Proofs
attribute [local irreducible] Code.wp wpList wpAnyH
open Go.Vs
theorem cr_ {s : Stp} (h : ¬ (0 ≤ s.rule ∧ s.rule ≤ 255 ∧ 0 ≤ s.fact.kind ∧ s.fact.kind ≤ 255 ∧ -1 ≤ s.piece ∧ s.piece ≤ 2147483646 ∧ s.frm.length ≤ 255 ∧ (∀ q ∈ s.frm, 0 ≤ q ∧ q ≤ 2147483647) ∧ s.fact.a.length ≤ 65535 ∧ s.fact.b.length ≤ 65535 ∧ s.fact.r.length ≤ 65535)) : false = dI_ s := by
  rw [eq_comm, Bool.eq_false_iff]
  exact fun q => h (dH_.1 q)
theorem jl_ {s : Stp} (h1 : 0 ≤ s.rule) (h2 : s.rule ≤ 255) (h3 : 0 ≤ s.fact.kind) (h4 : s.fact.kind ≤ 255) (h5 : -1 ≤ s.piece) (h6 : s.piece ≤ 2147483646) (h7 : s.frm.length ≤ 255) (h8 : ∀ q ∈ s.frm, 0 ≤ q ∧ q ≤ 2147483647) (h9 : s.fact.a.length ≤ 65535) (h10 : s.fact.b.length ≤ 65535) :
    dI_ s = decide ((s.fact.r.length : Int) ≤ 65535) := by
  rw [Bool.eq_iff_iff, dH_, decide_eq_true_eq]
  constructor
  · intro q; have := q.2.2.2.2.2.2.2.2.2.2; omega
  · intro q; exact ⟨h1, h2, h3, h4, h5, h6, h7, h8, h9, h10, by omega⟩
theorem pC_ (s : Stp) (hfr : s.frm.length ≤ 1000000) (hsf : s.fact.sml) : Tri Tryz.prog 36 #[Stp.val s] [] [aY_ (Stp.ad s) (List.flatMap dg_ (Stp.frm s))] (fun _ : Unit => .bool (dI_ s)) (fun _ => []) (fun _ => []) := by
 refine S_ Tryz.func36 rfl rfl Tryz.ntmps36 rfl fun v0 => ?_
 obtain ⟨hsa, hsb, hsr⟩ := hsf
 refine g_ (c_ (aM_ rfl rfl fun b1 => ?_))
 refine a_ (e_ rfl) rfl (d_ (b_ rfl (g_ (c_ (a_ (h_ G_ rfl rfl rfl l_) rfl (a_ (M_ 0 U_ l_ rfl rfl rfl) rfl (Z_ bl_ rfl fun b2 => ?_)))))))
 refine Q_ 0 l_ rfl rfl rfl rfl rfl rfl (d_ (b_ rfl (g_ (g_ (c_ (a_ (h_ G_ rfl rfl rfl q_) rfl (a_ (n_ 1 B_ rfl rfl rfl) rfl (E_ (au_ rfl rfl) rfl fun r1 hr1 => ?_))))))))
 refine a_ (f_ rfl) rfl ?_
 cases r1
 ·
  replace hr1 := of_decide_eq_false hr1
  refine i_ rfl rfl (a_ (h_ G_ rfl rfl rfl q_) rfl (i_ rfl rfl (a_ (n_ 1 B_ rfl rfl rfl) rfl (i_ rfl rfl (E_ (bp_ rfl rfl) rfl fun r2 hr2 => ?_)))))
  refine a_ (t_ rfl rfl) rfl (a_ (f_ rfl) rfl ?_)
  cases r2
  ·
   replace hr2 := of_decide_eq_false hr2
   refine i_ rfl rfl (a_ (h_ o_ rfl rfl rfl q_) rfl (i_ rfl rfl (a_ (n_ 0 B_ rfl rfl rfl) rfl (i_ rfl rfl (E_ (au_ rfl rfl) rfl fun r3 hr3 => ?_)))))
   refine a_ (t_ rfl rfl) rfl (a_ (f_ rfl) rfl ?_)
   cases r3
   ·
    replace hr3 := of_decide_eq_false hr3
    refine i_ rfl rfl (a_ (h_ o_ rfl rfl rfl q_) rfl (i_ rfl rfl (a_ (n_ 0 B_ rfl rfl rfl) rfl (i_ rfl rfl (E_ (bp_ rfl rfl) rfl fun r4 hr4 => ?_)))))
    refine a_ (t_ rfl rfl) rfl (a_ (f_ rfl) rfl ?_)
    cases r4
    ·
     replace hr4 := of_decide_eq_false hr4
     refine i_ rfl rfl (a_ (h_ G_ rfl rfl rfl q_) rfl (i_ rfl rfl (a_ (n_ 1 B_ rfl rfl rfl) rfl (i_ rfl rfl (E_ (au_ rfl rfl) rfl fun r5 hr5 => ?_)))))
     refine a_ (t_ rfl rfl) rfl (a_ (f_ rfl) rfl ?_)
     cases r5
     ·
      replace hr5 := of_decide_eq_false hr5
      refine i_ rfl rfl (a_ (h_ G_ rfl rfl rfl q_) rfl (i_ rfl rfl (a_ (n_ 1 B_ rfl rfl rfl) rfl (i_ rfl rfl (E_ (bp_ rfl rfl) rfl fun r6 hr6 => ?_)))))
      refine a_ (t_ rfl rfl) rfl (a_ (f_ rfl) rfl ?_)
      cases r6
      ·
       replace hr6 := of_decide_eq_false hr6
       refine i_ rfl rfl (a_ (h_ G_ rfl rfl rfl bc_) rfl (i_ rfl rfl (a_ (n_ 1 bz_ rfl rfl rfl) rfl (i_ rfl rfl (a_ (aA_ aj_ rfl) rfl (i_ rfl rfl (E_ (bp_ rfl rfl) rfl fun r7 hr7 => ?_)))))))
       refine a_ (t_ rfl rfl) rfl (d_ (b_ rfl ?_))
       cases r7
       ·
        replace hr7 := of_decide_eq_false hr7
        refine A_ rfl (J_ (b_ rfl (g_ (g_ (c_ (a_ (h_ G_ rfl rfl rfl bc_) rfl (a_ (n_ 1 bz_ rfl rfl rfl) rfl (a_ (aA_ aj_ rfl) rfl (a_ (f_ rfl) rfl ?_)))))))))
        refine d_ (b_ rfl (ae_ ?_))
        refine bt_ (ι := {y : Nat // y ≤ List.length (Stp.frm s) ∧ (∀ u ∈ List.take y (Stp.frm s), 0 ≤ u ∧ u ≤ 2147483647)}) (fun y => [(2, .bool false), (3, zp_ b2 0), (43, .slice (Stp.ad s) (List.length (Stp.frm s)) (Stp.cap s)), (44, .int .i64 (List.length (Stp.frm s) : Int)), (45, .int .i64 (y.1 : Int))]) (fun y => ((b2, .cells #[.int .i64 (Fc.kind (Stp.fact s)), str (Fc.a (Stp.fact s)), str (Fc.b (Stp.fact s)), str (Fc.r (Stp.fact s)), .int .i64 (Fc.lo (Stp.fact s)), .int .i64 (Fc.hi (Stp.fact s))] 24 (0, 0)) :: [])) (fun y => [aY_ (Stp.ad s) (List.flatMap dg_ (Stp.frm s))]) (fun y => List.length (Stp.frm s) - y.1) ⟨(0 : Nat), by simp, by simp⟩ ⟨rfl, rfl, rfl, rfl, rfl, trivial⟩ C_ (fun _ _ h => h) ?_
        rintro ⟨i, hi_i, hA⟩
        dsimp only at hi_i hA ⊢
        refine g_ (c_ (E_ (au_ rfl rfl) rfl fun r8 hr8 => ?_))
        refine d_ (b_ rfl (g_ ?_))
        cases r8
        ·
         replace hr8 := of_decide_eq_false hr8
         refine A_ rfl (bj_ rfl (b_ rfl (g_ (c_ (a_ (h_ o_ rfl rfl rfl y_) rfl (a_ (n_ 0 H_ rfl rfl rfl) rfl (a_ (cd_ aa_ rfl) rfl (E_ (cb_ rfl rfl) rfl fun r9 hr9 => ?_))))))))
         refine a_ (f_ rfl) rfl ?_
         cases r9
         ·
          replace hr9 := of_decide_eq_false hr9
          refine k_ rfl rfl rfl rfl (k_ rfl rfl rfl rfl (k_ rfl rfl rfl rfl (k_ rfl rfl rfl rfl (a_ (t_ rfl rfl) rfl (a_ (f_ rfl) rfl (k_ rfl rfl rfl rfl (k_ rfl rfl rfl rfl (k_ rfl rfl rfl rfl (k_ rfl rfl rfl rfl ?_)))))))))
          refine a_ (t_ rfl rfl) rfl (a_ (e_ rfl) rfl (d_ (b_ rfl (u_ ?_))))
          exact Y_ cL_ () (s_ rfl (cr_ fun q => by obtain ⟨q1, q2, q3, q4, q5, q6, q7, _, q8, q9, q10⟩ := q; omega)) x_ (fun _ _ _ => trivial)
         ·
          replace hr9 := of_decide_eq_true hr9
          refine i_ rfl rfl (a_ (h_ o_ rfl rfl rfl y_) rfl (i_ rfl rfl (a_ (n_ 0 H_ rfl rfl rfl) rfl (i_ rfl rfl (a_ (cd_ aa_ rfl) rfl (i_ rfl rfl (E_ (cb_ rfl rfl) rfl fun r10 hr10 => ?_)))))))
          refine a_ (v_ rfl rfl) rfl (a_ (f_ rfl) rfl ?_)
          cases r10
          ·
           replace hr10 := of_decide_eq_false hr10
           refine k_ rfl rfl rfl rfl (k_ rfl rfl rfl rfl (k_ rfl rfl rfl rfl (k_ rfl rfl rfl rfl (a_ (t_ rfl rfl) rfl (a_ (e_ rfl) rfl (d_ (b_ rfl (u_ ?_))))))))
           exact Y_ cL_ () (s_ rfl (cr_ fun q => by obtain ⟨q1, q2, q3, q4, q5, q6, q7, _, q8, q9, q10⟩ := q; omega)) x_ (fun _ _ _ => trivial)
          ·
           replace hr10 := of_decide_eq_true hr10
           refine i_ rfl rfl (a_ (h_ o_ rfl rfl rfl y_) rfl (i_ rfl rfl (a_ (n_ 0 H_ rfl rfl rfl) rfl (i_ rfl rfl (a_ (cd_ aa_ rfl) rfl (i_ rfl rfl (E_ (cb_ rfl rfl) rfl fun r11 hr11 => ?_)))))))
           refine a_ (v_ rfl rfl) rfl (a_ (e_ rfl) rfl (d_ (b_ rfl (u_ ?_))))
           exact Y_ cL_ () (s_ rfl (hr11.symm.trans (jl_ (s := s) (by omega) (by omega) (by omega) (by omega) (by omega) (by omega) (by omega) (by have z := hA; rw [List.take_of_length_le (by omega)] at z; exact z) (by omega) (by omega)).symm)) x_ (fun _ _ _ => trivial)
        ·
         replace hr8 := of_decide_eq_true hr8
         have hlx1 : i < List.length (Stp.frm s) := by omega
         obtain ⟨x1, hx1⟩ : ∃ e0, (Stp.frm s)[i]? = some e0 := ⟨_, List.getElem?_eq_getElem hlx1⟩
         have hmx1 : x1 ∈ (Stp.frm s) := List.mem_of_getElem? hx1
         refine w_ rfl (J_ (b_ rfl (g_ (ae_ (g_ (c_ (a_ (an_ aj_ q_ rfl rfl (fun v _ h => ba_ (n := 1) cu_ (by decide) (by exact h.1) hx1) (by omega) (by first | omega | (simp; done))) rfl (a_ (bE_ (ad := (Stp.ad s)) B_ rfl (fun v _ h => by exact h.1) (ar_ cu_ hx1 0 _ rfl)) rfl (a_ (e_ rfl) rfl ?_)))))))))
         refine d_ (b_ rfl (g_ (c_ (a_ (f_ rfl) rfl (E_ (au_ rfl rfl) rfl fun r12 hr12 => ?_)))))
         refine a_ (f_ rfl) rfl ?_
         cases r12
         ·
          replace hr12 := of_decide_eq_false hr12
          refine i_ rfl rfl (a_ (f_ rfl) rfl (i_ rfl rfl (E_ (bp_ rfl rfl) rfl fun r13 hr13 => ?_)))
          refine a_ (t_ rfl rfl) rfl (d_ (b_ rfl ?_))
          cases r13
          ·
           replace hr13 := of_decide_eq_false hr13
           refine A_ rfl (J_ (b_ rfl (c_ (a_ (ag_ rfl rfl rfl (aS_ (by omega) (by omega))) rfl (a_ (f_ rfl) rfl (d_ (p_ rfl ?_)))))))
           exact aU_ ⟨i + 1, hlx1, fun u hu => by rw [List.take_add_one, hx1] at hu; rcases List.mem_append.1 hu with z | z; exact hA u z; simp only [Option.toList_some, List.mem_singleton] at z; subst z; constructor <;> omega⟩ (by dsimp only; omega) ⟨rfl, rfl, rfl, rfl, rfl, trivial⟩ C_ (fun _ _ h => h)
          ·
           replace hr13 := of_decide_eq_true hr13
           refine w_ rfl (g_ (c_ (a_ (e_ rfl) rfl (d_ (b_ rfl (u_ ?_))))))
           exact Y_ cL_ () (s_ rfl (cr_ fun q => by have z := q.2.2.2.2.2.2.2.1 x1 hmx1; omega)) x_ (fun _ _ _ => trivial)
         ·
          replace hr12 := of_decide_eq_true hr12
          refine k_ rfl rfl rfl rfl (k_ rfl rfl rfl rfl (a_ (v_ rfl rfl) rfl (d_ (b_ rfl (w_ rfl (g_ (c_ (a_ (e_ rfl) rfl (d_ ?_)))))))))
          refine b_ rfl (u_ ?_)
          exact Y_ cL_ () (s_ rfl (cr_ fun q => by have z := q.2.2.2.2.2.2.2.1 x1 hmx1; omega)) x_ (fun _ _ _ => trivial)
       ·
        replace hr7 := of_decide_eq_true hr7
        refine w_ rfl (g_ (c_ (a_ (e_ rfl) rfl (d_ (b_ rfl (u_ ?_))))))
        exact Y_ cL_ () (s_ rfl (cr_ fun q => by obtain ⟨q1, q2, q3, q4, q5, q6, q7, _, q8, q9, q10⟩ := q; omega)) x_ (fun _ _ _ => trivial)
      ·
       replace hr6 := of_decide_eq_true hr6
       refine k_ rfl rfl rfl rfl (k_ rfl rfl rfl rfl (k_ rfl rfl rfl rfl (k_ rfl rfl rfl rfl (a_ (v_ rfl rfl) rfl (d_ (b_ rfl (w_ rfl (g_ (c_ ?_)))))))))
       refine a_ (e_ rfl) rfl (d_ (b_ rfl (u_ ?_)))
       exact Y_ cL_ () (s_ rfl (cr_ fun q => by obtain ⟨q1, q2, q3, q4, q5, q6, q7, _, q8, q9, q10⟩ := q; omega)) x_ (fun _ _ _ => trivial)
     ·
      replace hr5 := of_decide_eq_true hr5
      refine k_ rfl rfl rfl rfl (k_ rfl rfl rfl rfl (k_ rfl rfl rfl rfl (a_ (v_ rfl rfl) rfl (a_ (f_ rfl) rfl (k_ rfl rfl rfl rfl (k_ rfl rfl rfl rfl (k_ rfl rfl rfl rfl (k_ rfl rfl rfl rfl (a_ (v_ rfl rfl) rfl ?_)))))))))
      refine d_ (b_ rfl (w_ rfl (g_ (c_ (a_ (e_ rfl) rfl (d_ (b_ rfl (u_ ?_))))))))
      exact Y_ cL_ () (s_ rfl (cr_ fun q => by obtain ⟨q1, q2, q3, q4, q5, q6, q7, _, q8, q9, q10⟩ := q; omega)) x_ (fun _ _ _ => trivial)
    ·
     replace hr4 := of_decide_eq_true hr4
     refine k_ rfl rfl rfl rfl (k_ rfl rfl rfl rfl (k_ rfl rfl rfl rfl (a_ (v_ rfl rfl) rfl (a_ (f_ rfl) rfl (k_ rfl rfl rfl rfl (k_ rfl rfl rfl rfl (k_ rfl rfl rfl rfl (a_ (v_ rfl rfl) rfl (a_ (f_ rfl) rfl ?_)))))))))
     refine k_ rfl rfl rfl rfl (k_ rfl rfl rfl rfl (k_ rfl rfl rfl rfl (k_ rfl rfl rfl rfl (a_ (v_ rfl rfl) rfl (d_ (b_ rfl (w_ rfl (g_ (c_ ?_)))))))))
     refine a_ (e_ rfl) rfl (d_ (b_ rfl (u_ ?_)))
     exact Y_ cL_ () (s_ rfl (cr_ fun q => by obtain ⟨q1, q2, q3, q4, q5, q6, q7, _, q8, q9, q10⟩ := q; omega)) x_ (fun _ _ _ => trivial)
   ·
    replace hr3 := of_decide_eq_true hr3
    refine k_ rfl rfl rfl rfl (k_ rfl rfl rfl rfl (k_ rfl rfl rfl rfl (a_ (v_ rfl rfl) rfl (a_ (f_ rfl) rfl (k_ rfl rfl rfl rfl (k_ rfl rfl rfl rfl (k_ rfl rfl rfl rfl (a_ (v_ rfl rfl) rfl (a_ (f_ rfl) rfl ?_)))))))))
    refine k_ rfl rfl rfl rfl (k_ rfl rfl rfl rfl (k_ rfl rfl rfl rfl (a_ (v_ rfl rfl) rfl (a_ (f_ rfl) rfl (k_ rfl rfl rfl rfl (k_ rfl rfl rfl rfl (k_ rfl rfl rfl rfl (k_ rfl rfl rfl rfl (a_ (v_ rfl rfl) rfl ?_)))))))))
    refine d_ (b_ rfl (w_ rfl (g_ (c_ (a_ (e_ rfl) rfl (d_ (b_ rfl (u_ ?_))))))))
    exact Y_ cL_ () (s_ rfl (cr_ fun q => by obtain ⟨q1, q2, q3, q4, q5, q6, q7, _, q8, q9, q10⟩ := q; omega)) x_ (fun _ _ _ => trivial)
  ·
   replace hr2 := of_decide_eq_true hr2
   refine k_ rfl rfl rfl rfl (k_ rfl rfl rfl rfl (k_ rfl rfl rfl rfl (a_ (v_ rfl rfl) rfl (a_ (f_ rfl) rfl (k_ rfl rfl rfl rfl (k_ rfl rfl rfl rfl (k_ rfl rfl rfl rfl (a_ (v_ rfl rfl) rfl (a_ (f_ rfl) rfl ?_)))))))))
   refine k_ rfl rfl rfl rfl (k_ rfl rfl rfl rfl (k_ rfl rfl rfl rfl (a_ (v_ rfl rfl) rfl (a_ (f_ rfl) rfl (k_ rfl rfl rfl rfl (k_ rfl rfl rfl rfl (k_ rfl rfl rfl rfl (a_ (v_ rfl rfl) rfl (a_ (f_ rfl) rfl ?_)))))))))
   refine k_ rfl rfl rfl rfl (k_ rfl rfl rfl rfl (k_ rfl rfl rfl rfl (k_ rfl rfl rfl rfl (a_ (v_ rfl rfl) rfl (d_ (b_ rfl (w_ rfl (g_ (c_ ?_)))))))))
   refine a_ (e_ rfl) rfl (d_ (b_ rfl (u_ ?_)))
   exact Y_ cL_ () (s_ rfl (cr_ fun q => by obtain ⟨q1, q2, q3, q4, q5, q6, q7, _, q8, q9, q10⟩ := q; omega)) x_ (fun _ _ _ => trivial)
 ·
  replace hr1 := of_decide_eq_true hr1
  refine k_ rfl rfl rfl rfl (k_ rfl rfl rfl rfl (k_ rfl rfl rfl rfl (a_ (v_ rfl rfl) rfl (a_ (f_ rfl) rfl (k_ rfl rfl rfl rfl (k_ rfl rfl rfl rfl (k_ rfl rfl rfl rfl (a_ (v_ rfl rfl) rfl (a_ (f_ rfl) rfl ?_)))))))))
  refine k_ rfl rfl rfl rfl (k_ rfl rfl rfl rfl (k_ rfl rfl rfl rfl (a_ (v_ rfl rfl) rfl (a_ (f_ rfl) rfl (k_ rfl rfl rfl rfl (k_ rfl rfl rfl rfl (k_ rfl rfl rfl rfl (a_ (v_ rfl rfl) rfl (a_ (f_ rfl) rfl ?_)))))))))
  refine k_ rfl rfl rfl rfl (k_ rfl rfl rfl rfl (k_ rfl rfl rfl rfl (a_ (v_ rfl rfl) rfl (a_ (f_ rfl) rfl (k_ rfl rfl rfl rfl (k_ rfl rfl rfl rfl (k_ rfl rfl rfl rfl (k_ rfl rfl rfl rfl (a_ (v_ rfl rfl) rfl ?_)))))))))
  refine d_ (b_ rfl (w_ rfl (g_ (c_ (a_ (e_ rfl) rfl (d_ (b_ rfl (u_ ?_))))))))
  exact Y_ cL_ () (s_ rfl (cr_ fun q => by obtain ⟨q1, q2, q3, q4, q5, q6, q7, _, q8, q9, q10⟩ := q; omega)) x_ (fun _ _ _ => trivial)
theorem eB_ : Elt Tryz.prog 39 5 1 1 := lc_ bS_ (z := .int .u8 0) (by kernel_rfl) rfl (by decide)
theorem oB_ : EltB Tryz.prog 39 5 9 := eltB bS_ bR_ (by kernel_rfl)
theorem dK_ (L : Str) (n : Int) (k : Nat) (sv : Value) (Hr : Hp) (hr : bi_ 5 1 sv (List.length L) (List.flatMap u8C L) Hr) (hk : k ≤ 8) (hL : L.length ≤ 140737488355000) : Tri Tryz.prog 37 #[sv, .int .i64 n, .int .i64 (k : Int)] Hr [] (fun y : {y : Value × Hp // bi_ 5 1 y.1 (List.length (L ++ ac_ n k)) (List.flatMap u8C (L ++ ac_ n k)) y.2} => y.1.1) (fun y => y.1.2) (fun _ => []) := by
  refine S_ Tryz.func37 rfl rfl Tryz.ntmps37 rfl fun v0 => ?_
  refine g_ (c_ (a_ (e_ rfl) rfl (d_ (b_ rfl (g_ (g_ (c_ (a_ (f_ rfl) rfl (a_ (ag_ rfl rfl rfl (aS_ (by omega) (by omega))) rfl ?_)))))))))
  refine a_ (e_ rfl) rfl (d_ (b_ rfl (ae_ ?_)))
  refine bt_ (ι := {y : Nat × Str × Value × Hp // y.1 ≤ k ∧ L ++ ac_ n k = y.2.1 ++ ac_ n y.1 ∧ bi_ 5 1 y.2.2.1 (List.length y.2.1) (List.flatMap u8C y.2.1) y.2.2.2}) (fun y => [(0, y.1.2.2.1), (1, .int .i64 n), (7, .int .i64 ((y.1.1 : Int) - 1))]) (fun y => (y.1.2.2.2)) (fun y => []) (fun y => y.1.1) ⟨(k, L, sv, Hr), Nat.le_refl _, rfl, hr⟩ ⟨rfl, rfl, rfl, trivial⟩ cM_ (fun _ _ _ => trivial) ?_
  rintro ⟨⟨j, l, sv_B, H_B⟩, hj, hl, hr_B⟩
  dsimp only at hj hl hr_B ⊢
  refine g_ (g_ (c_ (a_ (f_ rfl) rfl (E_ (cw_ rfl rfl) rfl fun r1 hr1 => ?_))))
  refine d_ (b_ rfl ?_)
  cases r1
  · skip
    replace hr1 := of_decide_eq_false hr1
    obtain rfl : j = 0 := by omega
    simp only [ac_, List.append_nil] at hl
    refine A_ rfl (bj_ rfl (b_ rfl (g_ (c_ (a_ (f_ rfl) rfl (a_ (e_ rfl) rfl (d_ (b_ rfl (u_ ?_)))))))))
    exact Y_ Tryz.results37 ⟨(sv_B, H_B), by rw [hl]; exact hr_B⟩ rfl cM_ (fun _ _ _ => trivial)
  · skip
    replace hr1 := of_decide_eq_true hr1
    obtain ⟨i, rfl⟩ : ∃ i, j = i + 1 := ⟨j - 1, by omega⟩
    refine w_ rfl (J_ (b_ rfl (g_ (ae_ (c_ (a_ (f_ rfl) rfl (a_ (f_ rfl) rfl (a_ (bZ_ aT_ aZ_ rfl (dR_ n)) rfl (a_ (f_ rfl) rfl ?_)))))))))
    refine a_ (ch_ (ag_ rfl rfl rfl (aS_ (by omega) (by omega))) (show _ = Value.int .i64 (8 * (i : Int)) by congr 1; omega)) rfl (a_ (kg_ (m := Go.Vs.bits n) (i := i) rfl rfl (by omega)) rfl (a_ (bZ_ aZ_ bx_ rfl (lW_ _)) rfl (be_ aE_ cI_ lT_ rfl rfl rfl rfl rfl rfl fun b1 => ?_)))
    refine bC_ (news := List.flatMap u8C [(UInt8.ofNat (Go.Vs.bits n / 256 ^ i))]) eB_ hr_B rfl rfl aK_ rfl (ce_ 0 rfl) (fun u hu => bH_ dJ_ hu) (by simp only [maxLen]; (have z := congrArg List.length hl; simp only [List.length_append, bf_, List.length_cons, List.length_nil] at z ⊢; omega)) (by (have z := congrArg List.length hl; simp only [List.length_append, bf_, List.length_cons, List.length_nil] at z ⊢; omega)) rfl fun sv1 Hr1 hr1 => ?_
    refine as_ List.perm_append_comm ?_
    have hq1 : bi_ 5 1 sv1 (List.length (l ++ [(UInt8.ofNat (Go.Vs.bits n / 256 ^ i))])) (List.flatMap u8C (l ++ [(UInt8.ofNat (Go.Vs.bits n / 256 ^ i))])) Hr1 := by rw [List.length_append, List.flatMap_append]; exact hr1
    refine a_ (e_ rfl) rfl (d_ (b_ rfl (c_ (a_ (f_ rfl) rfl (a_ (ag_ rfl rfl rfl (aS_ (by omega) (by omega))) rfl (a_ (e_ rfl) rfl (d_ (p_ rfl ?_))))))))
    exact aU_ ⟨(i, (l ++ [(UInt8.ofNat (Go.Vs.bits n / 256 ^ i))]), sv1, Hr1), (by omega), (by rw [hl]; simp [ac_]), hq1⟩ (by dsimp only; omega) ⟨rfl, rfl, (congrArg some (congrArg (Value.int .i64) (by dsimp only; omega))), trivial⟩ aK_ (fun _ _ _ => trivial)
end Go.Proofs.YtaffcjgphlhppaaGreatDoor
