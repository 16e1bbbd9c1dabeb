/-
  Part of the proof of the law CheckerCounts over this seat: the small logic, the data, the contracts of functions (no condition).
-/
import Derived.Test.YtaffcjgphlhppaaGreatDoorQCheckerCounts9
import Derived.Test.YtaffcjgphlhppaaGreatDoorQCheckerCounts7
set_option linter.unusedVariables false
set_option linter.unusedSimpArgs false
set_option linter.unusedSectionVars false
namespace Go.Proofs.YtaffcjgphlhppaaGreatDoor
open Go Go.Sx Go.Proofs
attribute [local irreducible] Code.wp wpList wpAnyH
open Go.Vs
theorem nB_ {P : Program} {N : Nf} {fr : Fr} {H : Hp} {Γ : List Fct} {ty t e : TypeId} {len sz : Nat} {parts : List (Nat × Operand)} {vs : List (Nat × Value)} {z cs : List Value} (hz : ∀ w, (zeroValue t).run P w = .ok (.agg z.toArray) w) (hu : ∀ w, (underlying t).run P w = .ok (.array len e) w) (hs : ∀ w, (sizeOf e).run P w = .ok sz w) (hx : Fr.evp fr parts = some vs)
    (hf : hE_ (fun i => some (i * sz, sz)) z vs = some cs) : Yld P N fr H Γ (.build t parts.toArray) ty (.agg cs.toArray) :=
  hR_ (fun a h1 w => by
    have := h1.evp hx
    rw [List.map_toArray, this]
    have hf' := gg_ _ _ _ _ hf
    simp only [Instr.build, Sem.run_bind, hz, Result.andThen_ok, hu, hs, Value.cells, hf', Sem.run_pure])
def addI {α : Type} [DecidableEq α] (y : α) (l : List α) : List α := if y ∈ l then l else l ++ [y]
theorem nv_ {α : Type} [DecidableEq α] {y z : α} {l : List α} : z ∈ addI y l ↔ z ∈ l ∨ z = y := by
  unfold addI
  by_cases h : y ∈ l
  · rw [if_pos h]; exact ⟨.inl, fun q => q.elim id fun e => e ▸ h⟩
  · rw [if_neg h, List.mem_append, List.mem_singleton]
theorem ku_ {p : List Pc} {s : Str} : dl_ p s = true ↔ s = [42] ∨ s = [33] ∨ s ∈ cy_ p := by
  rw [hG_]
  simp only [dl_, Bool.or_eq_true, decide_eq_true_eq, List.any_eq_true, Bool.and_eq_true]
  refine or_congr Iff.rfl (or_congr Iff.rfl ?_)
  simp only [cq_, gv_, List.mem_flatMap, List.mem_filter]
  constructor
  · rintro ⟨x, hx, hn, h⟩
    refine ⟨x, hx, ?_, by simpa using hn⟩
    rcases h with h | h | h <;> simp [← h]
  · rintro ⟨x, hx, hm, hn⟩
    simp only [List.mem_cons, List.not_mem_nil, or_false] at hm
    exact ⟨x, hx, by simpa using hn, by rcases hm with rfl | rfl | rfl <;> simp⟩
structure VrfH where
  vb : Nat
  ab : Nat
  es : Array MapEntry
  ec : Nat
  q : List Str
structure VrfOk (p : List Pc) (y : VrfH) : Prop where
  e : SetE str y.es y.q
  k : ∀ s, dl_ p s = true ↔ s ∈ y.q
theorem cT_ : gw_ Tryz.prog 80 [(0, 1), (1, 1), (2, 1)] [.int .i64 0, .int .i64 0, .nilFunc] := ⟨_, Tryz.zeroValue80, dP_, fun w => by simp [r_, Tryz.sizeOf78]⟩
theorem strt83 : gw_ Tryz.prog 83 [(0, 1), (1, 1), (2, 1), (3, 51)] [.slice none 0 0, .map none, .slice none 0 0, .int .i64 0, .int .i64 0, .nilFunc, .int .i64 0, .int .i64 0, .nilFunc, .int .i64 0, .int .i64 0, .nilFunc, .int .i64 0, .int .i64 0, .nilFunc, .int .i64 0, .int .i64 0, .nilFunc, .int .i64 0, .int .i64 0, .nilFunc, .int .i64 0, .int .i64 0, .nilFunc, .int .i64 0, .int .i64 0, .nilFunc, .int .i64 0, .int .i64 0, .nilFunc, .int .i64 0, .int .i64 0, .nilFunc, .int .i64 0, .int .i64 0, .nilFunc, .int .i64 0, .int .i64 0, .nilFunc, .int .i64 0, .int .i64 0, .nilFunc, .int .i64 0, .int .i64 0, .nilFunc, .int .i64 0, .int .i64 0, .nilFunc, .int .i64 0, .int .i64 0, .nilFunc, .int .i64 0, .int .i64 0, .nilFunc] := ⟨_, Tryz.zeroValue83, bb_, fun w => by simp [oS_, aF_, oQ_, Tryz.sizeOf81]⟩
theorem mO_ : Fn0 Tryz.prog 72 #[] (.agg gJ_.toArray) := by
  refine T_ Tryz.func72 rfl rfl Tryz.ntmps72 rfl fun v0 => ?_
  refine g_ (c_ (ae_ Tryz.zeroValue81 rfl fun b1 => ?_))
  refine d_ (b_ rfl (g_ (c_ (a_ (az_ cT_ rfl rfl) rfl (a_ (az_ cT_ rfl rfl) rfl (a_ (az_ cT_ rfl rfl) rfl (a_ (az_ cT_ rfl rfl) rfl (a_ (az_ cT_ rfl rfl) rfl (a_ (az_ cT_ rfl rfl) rfl ?_)))))))))
  refine a_ (az_ cT_ rfl rfl) rfl (a_ (az_ cT_ rfl rfl) rfl (a_ (az_ cT_ rfl rfl) rfl (a_ (az_ cT_ rfl rfl) rfl (a_ (az_ cT_ rfl rfl) rfl (a_ (az_ cT_ rfl rfl) rfl (a_ (az_ cT_ rfl rfl) rfl (a_ (az_ cT_ rfl rfl) rfl (a_ (az_ cT_ rfl rfl) rfl (a_ (az_ cT_ rfl rfl) rfl ?_)))))))))
  refine a_ (bW_ (nB_ (sz := 3) (cs := gJ_) (z := [.int .i64 0, .int .i64 0, .nilFunc, .int .i64 0, .int .i64 0, .nilFunc, .int .i64 0, .int .i64 0, .nilFunc, .int .i64 0, .int .i64 0, .nilFunc, .int .i64 0, .int .i64 0, .nilFunc, .int .i64 0, .int .i64 0, .nilFunc, .int .i64 0, .int .i64 0, .nilFunc, .int .i64 0, .int .i64 0, .nilFunc, .int .i64 0, .int .i64 0, .nilFunc, .int .i64 0, .int .i64 0, .nilFunc, .int .i64 0, .int .i64 0, .nilFunc, .int .i64 0, .int .i64 0, .nilFunc, .int .i64 0, .int .i64 0, .nilFunc, .int .i64 0, .int .i64 0, .nilFunc, .int .i64 0, .int .i64 0, .nilFunc, .int .i64 0, .int .i64 0, .nilFunc, .int .i64 0, .int .i64 0, .nilFunc]) Tryz.zeroValue81 Tryz.runUnderlying81 Tryz.sizeOf80 rfl (by kernel_rfl)) (show _ = Value.agg #[.int .i64 0, .int .i64 0, .nilFunc, .int .i64 0, .int .i64 0, .func (.func 128) #[] #[], .int .i64 0, .int .i64 0, .func (.func 130) #[] #[], .int .i64 1, .int .i64 1, .func (.func 131) #[] #[], .int .i64 2, .int .i64 2, .func (.func 132) #[] #[], .int .i64 1, .int .i64 3, .func (.func 133) #[] #[], .int .i64 1, .int .i64 5, .func (.func 135) #[] #[], .int .i64 2, .int .i64 6, .func (.func 136) #[] #[], .int .i64 2, .int .i64 4, .func (.func 137) #[] #[], .int .i64 2, .int .i64 0, .func (.func 138) #[] #[], .int .i64 0, .int .i64 7, .func (.func 139) #[] #[], .int .i64 1, .int .i64 8, .func (.func 140) #[] #[], .int .i64 2, .int .i64 0, .func (.func 141) #[] #[], .int .i64 2, .int .i64 0, .func (.func 142) #[] #[], .int .i64 1, .int .i64 9, .func (.func 143) #[] #[], .int .i64 1, .int .i64 0, .func (.func 144) #[] #[], .int .i64 1, .int .i64 0, .func (.func 145) #[] #[]] from rfl)) rfl ?_
  refine X_ 0 Tryz.sizeOf81 rfl rfl rfl rfl rfl rfl (d_ (b_ rfl (u_ ?_)))
  exact fz_ () (fun aa v h1 h2 => ck_ (us := gJ_) 0 Tryz.results72 Tryz.isAgg81 Tryz.sizeOf81 rfl rfl rfl aa v h1 h2) C_ (fun _ _ _ => trivial)
theorem jG_ (p : List Pc) (pad : Option Addr) (pcap : Nat) (hp : p.length ≤ 10000000) : Tri Tryz.prog 31 #[.slice pad (List.length p) pcap] [] [aQ_ pad (List.flatMap Pc.cells p)] (fun y : {y : VrfH // VrfOk p y} => zp_ y.1.vb 0) (fun y => [(y.1.vb, .cells (cE_ (.slice pad p.length pcap) y.1.ab (.slice none 0 0)).toArray 83 (0, 0)), (y.1.ab, .map y.1.es y.1.ec)]) (fun _ => []) := by
  refine T_ Tryz.func31 rfl rfl Tryz.ntmps31 rfl fun v0 => ?_
  have hal := kJ_ p
  refine g_ (c_ (a_ (e_ rfl) rfl (d_ (b_ rfl (g_ (c_ (a_ (f_ rfl) rfl (id_ rfl fun b1 => ?_))))))))
  refine hk_ (k := [42]) 0 il_ (.inl rfl) dQ_ rfl rfl rfl rfl SetE.nil fun ej1 cj1 hj1 => ?_
  refine hk_ (k := [33]) 0 il_ (.inl rfl) dQ_ rfl rfl rfl rfl hj1 fun ej2 cj2 hj2 => ?_
  refine a_ (f_ rfl) rfl (Q_ (mO_) rfl C_ (fun _ _ _ => by exact trivial) rfl fun _ => ?_)
  refine a_ (bW_ (az_ (cs := (cE_ (.slice pad p.length pcap) b1 (.slice none 0 0))) strt83 rfl (by kernel_rfl)) (show _ = Value.agg (cE_ (.slice pad p.length pcap) b1 (.slice none 0 0)).toArray from rfl)) rfl (aN_ rfl rfl fun b2 => ?_)
  refine a_ (e_ rfl) rfl (d_ (b_ rfl (g_ (g_ (c_ (a_ (f_ rfl) rfl (Q_ (oL_ p pad pcap (by omega)) rfl C_ (fun v _ h => by exact ⟨h.1, trivial⟩) rfl fun ⟨⟨aad, acap⟩, hac, ham⟩ => ?_)))))))
  dsimp only
  refine a_ (ax_ aD_ rfl) rfl (a_ (f_ rfl) rfl (d_ (b_ rfl (ad_ ?_))))
  have hq0 : ∀ y, y ∈ (if [33] ∈ (if [42] ∈ ([] : List Str) then ([] : List Str) else ([] : List Str) ++ [[42]]) then (if [42] ∈ ([] : List Str) then ([] : List Str) else ([] : List Str) ++ [[42]]) else (if [42] ∈ ([] : List Str) then ([] : List Str) else ([] : List Str) ++ [[42]]) ++ [[33]]) ↔ y = [42] ∨ y = [33] := by intro y; simp
  refine bs_ (ι := {y : Nat × List Str × Array MapEntry × Nat // y.1 ≤ List.length (cy_ p) ∧ SetE str y.2.2.1 y.2.1 ∧ (∀ ux, ux ∈ y.2.1 ↔ ux = [42] ∨ ux = [33] ∨ ux ∈ List.take y.1 (cy_ p))}) (fun y => [(3, zp_ b2 0), (13, .slice aad (List.length (cy_ p)) acap), (14, .int .i64 (List.length (cy_ p) : Int)), (15, .int .i64 (y.1.1 : Int))]) (fun y => ((b2, .cells (cE_ (.slice pad p.length pcap) b1 (.slice none 0 0)).toArray 83 (0, 0)) :: ((b1, .map y.1.2.2.1 y.1.2.2.2) :: []))) (fun y => [aQ_ aad (List.flatMap cX_ (cy_ p)), aQ_ pad (List.flatMap Pc.cells p)]) (fun y => List.length (cy_ p) - y.1.1) ⟨((0 : Nat), (if [33] ∈ (if [42] ∈ ([] : List Str) then ([] : List Str) else ([] : List Str) ++ [[42]]) then (if [42] ∈ ([] : List Str) then ([] : List Str) else ([] : List Str) ++ [[42]]) else (if [42] ∈ ([] : List Str) then ([] : List Str) else ([] : List Str) ++ [[42]]) ++ [[33]]), ej2, cj2), by simp, hj2, (fun y => by rw [hq0 y]; simp)⟩ ⟨rfl, rfl, rfl, rfl, trivial⟩ (N_ D_ D_) (fun _ _ h => h) ?_
  rintro ⟨⟨i, q, es, ec⟩, hi, hE, hq⟩
  dsimp only at hi hE hq ⊢
  refine g_ (c_ (E_ (au_ rfl rfl) rfl fun r1 hr1 => ?_))
  refine d_ (b_ rfl (g_ ?_))
  cases r1
  · skip
    replace hr1 := of_decide_eq_false hr1
    refine z_ rfl (bg_ rfl (b_ rfl (g_ (c_ (a_ (f_ rfl) rfl (a_ (e_ rfl) rfl (d_ (b_ rfl (u_ ?_)))))))))
    have e9 : List.take i (cy_ p) = cy_ p := List.take_of_length_le (by omega)
    exact Y_ Tryz.results31 ⟨⟨b2, b1, es, ec, q⟩, ⟨hE, fun y => by rw [ku_, hq y, e9]⟩⟩ rfl (N_ D_ D_) (fun _ _ _ => trivial)
  · skip
    replace hr1 := of_decide_eq_true hr1
    have hlx1 : i < List.length (cy_ p) := by omega
    obtain ⟨x1, hx1⟩ : ∃ e0, (cy_ p)[i]? = some e0 := ⟨_, List.getElem?_eq_getElem hlx1⟩
    have hmx1 : x1 ∈ (cy_ p) := List.mem_of_getElem? hx1
    refine x_ rfl (J_ (b_ rfl (g_ (ad_ (g_ (c_ (a_ (ah_ aD_ w_ rfl rfl (fun v _ h => aM_ (n := 1) ca_ (by decide) (by exact h.1) hx1) (by omega) (by first | omega | (simp; done))) rfl (a_ (be_ (ad := aad) F_ rfl (fun v _ h => by exact h.1) (ak_ ca_ hx1 0 _ rfl)) rfl (a_ (e_ rfl) rfl ?_)))))))))
    refine d_ (b_ rfl (c_ (a_ (f_ rfl) rfl (a_ (aY_ rfl) rfl (a_ (h_ bb_ rfl rfl rfl oQ_) rfl (a_ (m_ 0 Tryz.isAgg77 rfl rfl rfl) rfl (a_ (f_ rfl) rfl (hk_ (k := x1) 1 il_ (.inr rfl) dQ_ rfl rfl rfl rfl hE fun ej3 cj3 hj3 => ?_))))))))
    refine d_ (b_ rfl (c_ (a_ (ac_ rfl rfl rfl (aL_ (by omega) (by omega))) rfl (a_ (f_ rfl) rfl (d_ (q_ rfl ?_))))))
    exact aO_ ⟨(i + 1, addI x1 q, ej3, cj3), hlx1, hj3, (fun y => by rw [nv_, hq y, List.take_add_one, hx1]; simp [or_assoc])⟩ (by dsimp only; omega) ⟨rfl, rfl, rfl, rfl, trivial⟩ (N_ D_ D_) (fun _ _ h => h)
end Go.Proofs.YtaffcjgphlhppaaGreatDoor
namespace Go.Proofs.YtaffcjgphlhppaaGreatDoor
open Go Go.Sx Go.Proofs
attribute [local irreducible] Code.wp wpList wpAnyH
open Go.Vs
def jh_ (fs : List Fc) (frm : List Int) (m : Int) : Prop := (frm.length : Int) = m ∧ eX_ fs frm = true
theorem dt_ {fs : List Fc} {frm : List Int} {q : Int} (h : eX_ fs frm = true) (hq : q ∈ frm) : 0 ≤ q ∧ q < (fs.length : Int) ∧ wf2 (fs.getD q.toNat zfc) = true := by
  have := List.all_eq_true.1 h q hq
  simpa [and_assoc] using this
theorem eN_ {α : Type} {l : List α} {i : Nat} {x d : α} (h : l[i]? = some x) : l.getD i d = x := by simp [List.getD, h]
theorem jy_ {fs : List Fc} {frm : List Int} {i : Nat} {q : Int} {x : Fc} (h : eX_ fs (List.take i frm) = true) (hq : frm[i]? = some q) (h0 : 0 ≤ q) (h1 : q < (fs.length : Int)) (hx : fs[q.toNat]? = some x) (hw : wf2 x = true) : eX_ fs (List.take (i + 1) frm) = true := by
  unfold eX_ at *
  rw [List.take_add_one, hq, Option.toList_some, List.all_append, h]
  have e : fs.getD q.toNat zfc = x := eN_ hx
  simp only [List.all_cons, List.all_nil, Bool.and_true, Bool.true_and, e, hw]
  rw [decide_eq_true h0, decide_eq_true h1]; rfl
theorem jx_ {fs : List Fc} {frm : List Int} {i : Nat} {q : Int} {x : Fc} (hq : frm[i]? = some q) (hx : fs[q.toNat]? = some x) : bN_ fs (List.take (i + 1) frm) = bN_ fs (List.take i frm) ++ [x] := by
  unfold bN_
  rw [List.take_add_one, hq, Option.toList_some, List.map_append]
  have e : fs.getD q.toNat zfc = x := eN_ hx
  show _ ++ [fs.getD q.toNat zfc] = _
  rw [e]
def dK_ (p : List Pc) (q k : Int) : Prop := 0 ≤ q ∧ q < (p.length : Int) ∧ (p.getD q.toNat zpc).kind = k
theorem ko_ (p : List Pc) (pad : Option Addr) (pcap : Nat) (fs : List Fc) (fad : Option Addr) (fcap : Nat) (vb ab : Nat) (s : Stp) (m : Int) (hfl : fs.length ≤ 10000000) (hfr : s.frm.length ≤ 1000000) (hfs : ∀ x ∈ fs, x.sml) : TriX Tryz.prog 76 #[zp_ vb 0, Stp.val s, .int .i64 m] [] [bU_ vb (.cells (cE_ (.slice pad p.length pcap) ab (.slice fad fs.length fcap)).toArray 83 (0, 0)), aQ_ fad (List.flatMap Fc.cells fs), aQ_ (Stp.ad s) (List.flatMap cU_ (Stp.frm s))] (fun y : {y : Option Addr × Nat // jh_ fs s.frm m} => .slice y.1.1 (bN_ fs s.frm).length y.1.2) (fun _ => []) (fun y => [aQ_ y.1.1 (List.flatMap Fc.cells (bN_ fs s.frm))]) (¬ jh_ fs s.frm m) := by
 refine bf_ Tryz.func76 rfl rfl Tryz.ntmps76 rfl fun v0 => ?_
 refine g_ (c_ (aN_ rfl rfl fun b1 => ?_))
 refine a_ (e_ rfl) rfl (d_ (b_ rfl (g_ (c_ (a_ (h_ K_ rfl rfl rfl aZ_) rfl (a_ (m_ 0 bA_ rfl rfl rfl) rfl (a_ (ax_ ao_ rfl) rfl (a_ (f_ rfl) rfl (E_ (aB_ rfl rfl) rfl fun r1 hr1 => ?_)))))))))
 refine an_ (cM_ r1) rfl C_ (fun _ _ _ => by exact trivial) rfl (fun hb => cg_ ((fun hq => by rw [hb] at hr1; simp [hq.1] at hr1))) fun ⟨_, hn1⟩ => ?_
 try dsimp only
 have hlm : (List.length (Stp.frm s) : Int) = m := eq_of_beq (hr1.trans hn1)
 refine d_ (b_ rfl (g_ (g_ (c_ (a_ (h_ K_ rfl rfl rfl aZ_) rfl (a_ (m_ 0 bA_ rfl rfl rfl) rfl (a_ (ax_ ao_ rfl) rfl (a_ (f_ rfl) rfl (d_ ?_)))))))))
 refine b_ rfl (ad_ ?_)
 refine bs_ (ι := {y : Nat × Value × Hp // y.1 ≤ List.length (Stp.frm s) ∧ eX_ fs (List.take y.1 (Stp.frm s)) = true ∧ bu_ 24 6 y.2.1 (List.length (bN_ fs (List.take y.1 (Stp.frm s)))) (List.flatMap Fc.cells (bN_ fs (List.take y.1 (Stp.frm s)))) y.2.2}) (fun y => [(0, zp_ vb 0), (6, y.1.2.1), (16, .slice (Stp.ad s) (List.length (Stp.frm s)) (Stp.cap s)), (17, .int .i64 (List.length (Stp.frm s) : Int)), (18, .int .i64 (y.1.1 : Int))]) (fun y => (y.1.2.2)) (fun y => [bU_ vb (.cells (cE_ (.slice pad p.length pcap) ab (.slice fad fs.length fcap)).toArray 83 (0, 0)), aQ_ fad (List.flatMap Fc.cells fs), aQ_ (Stp.ad s) (List.flatMap cU_ (Stp.frm s))]) (fun y => List.length (Stp.frm s) - y.1.1) ⟨((0 : Nat), (.slice none 0 0), []), by simp, rfl, (bu_.nil _ _)⟩ ⟨rfl, rfl, rfl, rfl, rfl, trivial⟩ C_ (fun _ _ h => h) ?_
 rintro ⟨⟨i, sv_Rfc, H_Rfc⟩, hi_i, hA, hr_Rfc⟩
 dsimp only at hi_i hA hr_Rfc ⊢
 refine g_ (c_ (E_ (au_ rfl rfl) rfl fun r2 hr2 => ?_))
 refine d_ (b_ rfl (g_ ?_))
 cases r2
 ·
  replace hr2 := of_decide_eq_false hr2
  refine z_ rfl (bg_ rfl (b_ rfl (g_ (c_ (a_ (f_ rfl) rfl (a_ (e_ rfl) rfl (d_ (b_ rfl (u_ ?_)))))))))
  refine bM_ ?_
  have e9 : List.take i (Stp.frm s) = Stp.frm s := List.take_of_length_le (by omega)
  rw [e9] at hA
  have hr9 : bu_ 24 6 sv_Rfc (List.length (bN_ fs (Stp.frm s))) (List.flatMap Fc.cells (bN_ fs (Stp.frm s))) H_Rfc := by have q := hr_Rfc; rwa [e9] at q
  refine dB_ hr9 cJ_ fun ad2 cp2 had2 hcad2 hmad2 hzad2 => ?_
  exact Y_ Tryz.results76 ⟨(ad2, cp2), ⟨hlm, hA⟩⟩ (gd_ rfl had2) C_ (fun v _ h => ⟨h.1, trivial⟩)
 ·
  replace hr2 := of_decide_eq_true hr2
  have hlqa : i < List.length (Stp.frm s) := by omega
  obtain ⟨qa, hqa⟩ : ∃ e0, (Stp.frm s)[i]? = some e0 := ⟨_, List.getElem?_eq_getElem hlqa⟩
  have hmqa : qa ∈ (Stp.frm s) := List.mem_of_getElem? hqa
  refine x_ rfl (J_ (b_ rfl (g_ (ad_ (g_ (c_ (a_ (ah_ ao_ r_ rfl rfl (fun v _ h => aM_ (n := 1) co_ (by decide) (by exact h.2.2.1) hqa) (by omega) (by first | omega | (simp; done))) rfl (a_ (be_ (ad := (Stp.ad s)) y_ rfl (fun v _ h => by exact h.2.2.1) (ak_ co_ hqa 0 _ rfl)) rfl (a_ (e_ rfl) rfl ?_)))))))))
  refine d_ (b_ rfl (g_ (c_ (a_ (f_ rfl) rfl (E_ (bY_ rfl rfl) rfl fun r3 hr3 => ?_)))))
  refine a_ (f_ rfl) rfl ?_
  cases r3
  ·
   replace hr3 := of_decide_eq_false hr3
   refine n_ rfl rfl rfl rfl (n_ rfl rfl rfl rfl (n_ rfl rfl rfl rfl (n_ rfl rfl rfl rfl (n_ rfl rfl rfl rfl (n_ rfl rfl rfl rfl (n_ rfl rfl rfl rfl (a_ (t_ rfl rfl) rfl (an_ (cM_ false) rfl C_ (fun _ _ _ => by exact trivial) rfl (fun hb => cg_ ((fun hq => by have z := dt_ hq.2 hmqa; omega))) fun ⟨_, hn2⟩ => ?_))))))))
   try dsimp only
   cases hn2
  ·
   replace hr3 := of_decide_eq_true hr3
   refine l_ rfl rfl (a_ (f_ rfl) rfl (l_ rfl rfl (a_ (f_ rfl) rfl (l_ rfl rfl (a_ (aY_ rfl) rfl (l_ rfl rfl (a_ (h_ bb_ rfl rfl rfl aF_) rfl (l_ rfl rfl (a_ (cS_ bc_ rfl (fun v _ h => by exact h.1) rfl) rfl ?_)))))))))
   refine l_ rfl rfl (a_ (ax_ ag_ rfl) rfl (l_ rfl rfl (E_ (au_ rfl rfl) rfl fun r4 hr4 => ?_)))
   refine a_ (B_ rfl rfl) rfl (an_ (cM_ r4) rfl C_ (fun _ _ _ => by exact trivial) rfl (fun hb => cg_ ((fun hq => by have z := dt_ hq.2 hmqa; rw [hb] at hr4; exact of_decide_eq_false hr4 z.2.1))) fun ⟨_, hn3⟩ => ?_)
   try dsimp only
   have hqr : 0 ≤ qa ∧ qa < (List.length fs : Int) := ⟨by omega, of_decide_eq_true (hr4.trans hn3)⟩
   refine d_ (b_ rfl (g_ ?_))
   have hlx1 : (Int.toNat qa) < List.length fs := by omega
   obtain ⟨x1, hx1⟩ : ∃ e0, fs[(Int.toNat qa)]? = some e0 := ⟨_, List.getElem?_eq_getElem hlx1⟩
   have hmx1 : x1 ∈ fs := List.mem_of_getElem? hx1
   refine c_ (a_ (f_ rfl) rfl (a_ (aY_ rfl) rfl (a_ (h_ bb_ rfl rfl rfl aF_) rfl (a_ (cS_ bc_ rfl (fun v _ h => by exact h.1) rfl) rfl (a_ (f_ rfl) rfl (a_ (ah_ ag_ k_ rfl rfl (fun v _ h => aM_ (n := 6) Fc.cells_len (by decide) (by exact h.2.1) hx1) (by omega) (by first | omega | (simp; done))) rfl (a_ (aK_ (ad := fad) (us := Fc.cells x1) R_ k_ rfl (fun v _ h => by exact h.2.1) (Fc.cells_len _) (ak_ Fc.cells_len hx1)) rfl (af_ (oX_ x1 (hfs x1 hmx1)) rfl C_ (fun _ _ _ => by exact trivial) rfl fun r5 hr5 => ?_))))))))
   refine an_ (cM_ r5) rfl C_ (fun _ _ _ => by exact trivial) rfl (fun hb => cg_ ((fun hq => by have z := dt_ hq.2 hmqa; rw [hb] at hr5; rw [eN_ hx1, hr5] at z; exact absurd z.2.2 (by simp)))) fun ⟨_, hn4⟩ => ?_
   try dsimp only
   have hwx : wf2 x1 = true := hr5.trans hn4
   refine d_ (b_ rfl (c_ (a_ (f_ rfl) rfl (a_ (f_ rfl) rfl (a_ (aY_ rfl) rfl (a_ (h_ bb_ rfl rfl rfl aF_) rfl (a_ (cS_ bc_ rfl (fun v _ h => by exact h.1) rfl) rfl (a_ (f_ rfl) rfl (a_ (ah_ ag_ k_ rfl rfl (fun v _ h => aM_ (n := 6) Fc.cells_len (by decide) (by exact h.2.1) hx1) (by omega) (by first | omega | (simp; done))) rfl ?_)))))))))
   refine a_ (aK_ (ad := fad) (us := Fc.cells x1) R_ k_ rfl (fun v _ h => by exact h.2.1) (Fc.cells_len _) (ak_ Fc.cells_len hx1)) rfl (aW_ ag_ k_ ba_ rfl rfl rfl rfl rfl rfl fun b2 => ?_)
   refine by_ (List.flatMap Fc.cells [x1]) D_ rfl ?_
   refine eZ_ (news := List.flatMap Fc.cells [x1]) kB_ hr_Rfc rfl rfl (fun q => by cases q) (by simp) cJ_ (by rw [em_ Fc.cells 6 Fc.cells_len]; rfl) (fun v _ h => by exact h.1) (fun u hu => cc_ Fc.cells_one hu) (by simp only [maxLen]; (have := hi_i; simp only [bN_, List.length_map, List.length_take]; omega)) (by (have := hi_i; simp only [bN_, List.length_map, List.length_take]; omega)) rfl fun sv1 Hr1 hr1 => ?_
   refine bd_ List.perm_append_comm ?_
   have hq1 : bu_ 24 6 sv1 (List.length ((bN_ fs (List.take i (Stp.frm s))) ++ [x1])) (List.flatMap Fc.cells ((bN_ fs (List.take i (Stp.frm s))) ++ [x1])) Hr1 := by rw [List.length_append, List.flatMap_append]; exact hr1
   refine a_ (e_ rfl) rfl (d_ (b_ rfl (c_ (a_ (ac_ rfl rfl rfl (aL_ (by omega) (by omega))) rfl (a_ (f_ rfl) rfl (d_ (q_ rfl ?_)))))))
   exact aO_ ⟨(i + 1, sv1, Hr1), hlqa, jy_ hA hqa hqr.1 hqr.2 hx1 hwx, (by have q := hq1; rw [← jx_ hqa hx1] at q; exact q)⟩ (by dsimp only; omega) ⟨rfl, rfl, rfl, rfl, rfl, trivial⟩ cJ_ (fun _ _ h => h.2)
end Go.Proofs.YtaffcjgphlhppaaGreatDoor
namespace Go.Proofs.YtaffcjgphlhppaaGreatDoor
open Go Go.Sx Go.Proofs
attribute [local irreducible] Code.wp wpList wpAnyH
open Go.Vs
theorem oJ_ {v : Vw} {F F' : Hp} {b : Nat} {x : Value} (hF : F.Perm ((b, .cells #[x] 4 (0, 0)) :: F')) (t : TypeId) (u : Value) (hs : v.sat F) :
    CallsD Tryz.prog 74 #[zp_ b 0] (.panicking (hK_ t u)) v.w fun e u' w' => e = .returned (.tuple #[]) ∧ u' = .panicking [{ v := .iface t u, recovered := true }] ∧ ∃ v' : Vw, v'.w = w' ∧ v'.sat ((b, .cells #[.bool false] 4 (0, 0)) :: F') ∧ v.to F v' ((b, .cells #[.bool false] 4 (0, 0)) :: F') := by
  have h2 := hs.perm hF
  have hb := (h2.own _ List.mem_cons_self).1
  have hc : v.w.cell? ⟨b, 0, none⟩ = some x := by simp [World.cell?, hb]
  have hz : v.w.frozen? ⟨b, 0, none⟩ = false := by simp [World.frozen?, hb]
  have hlt := (Array.getElem?_eq_some_iff.1 hb).1
  have hset : ((v.w.setCell ⟨b, 0, none⟩ (.bool false)).heap)[b]? = some (.cells #[.bool false] 4 (0, 0)) := by
    simp [World.setCell, Array.getElem?_modify, hb]
  have hoth : ∀ k, k ≠ b → ((v.w.setCell ⟨b, 0, none⟩ (.bool false)).heap)[k]? = v.w.heap[k]? := fun k hk => by
    simp [World.setCell, Array.getElem?_modify, Ne.symm hk]
  obtain ⟨g1, g2⟩ := ec_ (i := 0) (o' := .cells #[.bool false] 4 (0, 0)) (w' := v.w.setCell ⟨b, 0, none⟩ (.bool false)) h2 rfl rfl rfl rfl (Nat.le_refl _) (by simp [World.setCell]) hset hoth
  simp only [List.set_cons_zero] at g1 g2
  refine callsD_of_wpS Tryz.func74 rfl fun c₀ cs hu => ?_
  apply wpS_seq
  apply wpS_region
  simp [wpOpsS, go_sem, recoverD, hu, hK_, Tryz.ntmps74, Exit.thenS]
  refine wpS_cond (t := true) (by simp [Act.eval, Array.replicate]) ?_
  simp only [if_true]
  apply wpS_region
  simp [wpOpsS, go_sem, hc, hz, bodyPostS, results, Tryz.results74]
  exact ⟨_, rfl, g1, g2.permL hF.symm⟩
theorem nh_ (b : Nat) (w : World) : CallsD Tryz.prog 74 #[zp_ b 0] .returning w fun e u' w' => e = .returned (.tuple #[]) ∧ u' = .returning ∧ w' = w := by
  refine callsD_of_wpS Tryz.func74 rfl fun c₀ cs hu => ?_
  apply wpS_seq
  apply wpS_region
  simp [wpOpsS, go_sem, recoverD, hu, Tryz.ntmps74, Exit.thenS]
  refine wpS_cond (t := false) (by simp [Act.eval, Array.replicate]) ?_
  simp only [Bool.false_eq_true, if_false]
  refine wpS_of_wp (wp_skip ?_)
  cases c₀
  simp_all [bodyPostS, results, Tryz.results74]
theorem mZ_ (b : Nat) (w : World) : (invoke (.fn (.func 74) #[zp_ b 0]) #[]).run Tryz.prog w = .ok (.enter 74 #[zp_ b 0]) w := by
  exact callable (P := Tryz.prog) Tryz.func74 rfl rfl #[zp_ b 0] w
theorem gz_ {v0 : Vw} {H0 F F' : Hp} {fr : Fr} {b : Nat} {x : Value} {X : Bool} (hX : X = false) (hx : Fr.get fr 4 = some (zp_ b 0)) (hF : F.Perm ((b, .cells #[x] 4 (0, 0)) :: F')) :
    gj_ (bodyPostD Tryz.prog Tryz.f32 (en_ v0 H0 (fun y : {y : Bool // y = X} => .bool y.1) (fun _ => []) (fun _ => []))) ⟨56, [{ target := .fn (.func 74) #[zp_ b 0], args := #[] }]⟩ v0 H0 fr F :=
  panDf (F' := (b, .cells #[.bool false] 4 (0, 0)) :: F') ⟨false, hX.symm⟩ (mZ_ b) (fun v t u hs => oJ_ hF t u hs) (fun a v h1 h2 => by
    have e := h1.val 4 _ hx
    have hb := (h2.own _ List.mem_cons_self).1
    have hc : v.w.cell? ⟨b, 0, none⟩ = some (.bool false) := by simp [World.cell?, hb]
    simp [results, Tryz.results32, e, asAddr, bK_ bh_ hc]) (.refl _) rfl
theorem nW_ (p : List Pc) (pad : Option Addr) (pcap : Nat) (fs : List Fc) (fad : Option Addr) (fcap : Nat) (vb ab : Nat) (s : Stp) (k : Int) (hpl : p.length ≤ 10000000) : TriX Tryz.prog 77 #[zp_ vb 0, Stp.val s, .int .i64 k] [] [bU_ vb (.cells (cE_ (.slice pad p.length pcap) ab (.slice fad fs.length fcap)).toArray 83 (0, 0)), aQ_ pad (List.flatMap Pc.cells p)] (fun _ : {u : Unit // dK_ p s.piece k} => Pc.val (p.getD s.piece.toNat zpc)) (fun _ => []) (fun _ => []) (¬ dK_ p s.piece k) := by
 refine bf_ Tryz.func77 rfl rfl Tryz.ntmps77 rfl fun v0 => ?_
 refine g_ (c_ (aN_ rfl rfl fun b1 => ?_))
 refine ae_ Tryz.zeroValue73 rfl fun b2 => ?_
 refine d_ (b_ rfl (g_ ?_))
 refine aJ_ (by kernel_rfl) ?_
 refine M_ 23 [0, 1, 2, 3] (by kernel_rfl) (fun _ a b => ⟨a, b⟩) (j_ rfl (h_ K_ rfl rfl rfl r_) rfl (j_ rfl (m_ 1 y_ rfl rfl rfl) rfl ?_))
 refine bo_ rfl (bY_ rfl rfl) rfl fun r1 hr1 => ?_
 refine j_ rfl (f_ rfl) rfl (L_ ?_)
 cases r1
 ·
  replace hr1 := of_decide_eq_false hr1
  refine M_ 1 [4, 5, 6, 7, 8, 9, 10, 11, 12, 13, 14, 15, 16, 17, 18, 19, 20, 21, 22, 23, 24, 25] (by kernel_rfl) (fun _ a b => ⟨a, b⟩) (v_ rfl rfl rfl rfl rfl (v_ rfl rfl rfl rfl rfl (v_ rfl rfl rfl rfl rfl (v_ rfl rfl rfl rfl rfl (v_ rfl rfl rfl rfl rfl (v_ rfl rfl rfl rfl rfl (v_ rfl rfl rfl rfl rfl (v_ rfl rfl rfl rfl rfl (j_ rfl (t_ rfl rfl) rfl ?_)))))))))
  refine j_ rfl (f_ rfl) rfl (v_ rfl rfl rfl rfl rfl (v_ rfl rfl rfl rfl rfl (v_ rfl rfl rfl rfl rfl (v_ rfl rfl rfl rfl rfl (v_ rfl rfl rfl rfl rfl (v_ rfl rfl rfl rfl rfl (v_ rfl rfl rfl rfl rfl (v_ rfl rfl rfl rfl rfl (v_ rfl rfl rfl rfl rfl ?_)))))))))
  refine v_ rfl rfl rfl rfl rfl (v_ rfl rfl rfl rfl rfl (j_ rfl (t_ rfl rfl) rfl (L_ (I_ 26 rfl (by kernel_rfl) (an_ (cM_ false) rfl C_ (fun _ _ _ => by exact trivial) rfl (fun hb => cg_ ((fun hq => by unfold dK_ at hq; omega))) fun ⟨_, hn1⟩ => ?_)))))
  try dsimp only
  cases hn1
 ·
  replace hr1 := of_decide_eq_true hr1
  refine M_ 13 [4, 5, 6, 7, 8, 9, 10, 11, 12, 13] (by kernel_rfl) (fun _ a b => ⟨a, b⟩) (p_ rfl rfl rfl (h_ K_ rfl rfl rfl r_) rfl (p_ rfl rfl rfl (m_ 1 y_ rfl rfl rfl) rfl (p_ rfl rfl rfl (f_ rfl) rfl (p_ rfl rfl rfl (aY_ rfl) rfl (p_ rfl rfl rfl (h_ bb_ rfl rfl rfl oS_) rfl (p_ rfl rfl rfl (cS_ Tryz.isAgg22 rfl (fun v _ h => by exact h.1) rfl) rfl (p_ rfl rfl rfl (ax_ aV_ rfl) rfl ?_)))))))
  refine at_ rfl rfl rfl (au_ rfl rfl) rfl fun r2 hr2 => ?_
  refine j_ rfl (B_ rfl rfl) rfl (j_ rfl (f_ rfl) rfl (L_ ?_))
  cases r2
  ·
   replace hr2 := of_decide_eq_false hr2
   refine M_ 1 [14, 15, 16, 17, 18, 19, 20, 21, 22, 23, 24, 25] (by kernel_rfl) (fun _ a b => ⟨a, b⟩) (v_ rfl rfl rfl rfl rfl (v_ rfl rfl rfl rfl rfl (v_ rfl rfl rfl rfl rfl (v_ rfl rfl rfl rfl rfl (v_ rfl rfl rfl rfl rfl (v_ rfl rfl rfl rfl rfl (v_ rfl rfl rfl rfl rfl (v_ rfl rfl rfl rfl rfl (v_ rfl rfl rfl rfl rfl ?_)))))))))
   refine v_ rfl rfl rfl rfl rfl (v_ rfl rfl rfl rfl rfl (j_ rfl (t_ rfl rfl) rfl (L_ (I_ 26 rfl (by kernel_rfl) (an_ (cM_ false) rfl C_ (fun _ _ _ => by exact trivial) rfl (fun hb => cg_ ((fun hq => by unfold dK_ at hq; omega))) fun ⟨_, hn2⟩ => ?_)))))
   try dsimp only
   cases hn2
  ·
   replace hr2 := of_decide_eq_true hr2
   have hlx1 : (Int.toNat (Stp.piece s)) < List.length p := by omega
   obtain ⟨x1, hx1⟩ : ∃ e0, p[(Int.toNat (Stp.piece s))]? = some e0 := ⟨_, List.getElem?_eq_getElem hlx1⟩
   have hmx1 : x1 ∈ p := List.mem_of_getElem? hx1
   refine M_ 1 [14, 15, 16, 17, 18, 19, 20, 21, 22, 23, 24, 25] (by kernel_rfl) (fun _ a b => ⟨a, b⟩) (p_ rfl rfl rfl (f_ rfl) rfl (p_ rfl rfl rfl (aY_ rfl) rfl (p_ rfl rfl rfl (h_ bb_ rfl rfl rfl oS_) rfl (p_ rfl rfl rfl (cS_ Tryz.isAgg22 rfl (fun v _ h => by exact h.1) rfl) rfl (p_ rfl rfl rfl (h_ K_ rfl rfl rfl r_) rfl (p_ rfl rfl rfl (m_ 1 y_ rfl rfl rfl) rfl (p_ rfl rfl rfl (ah_ aV_ aj_ rfl rfl (fun v _ h => aM_ (n := 10) Pc.cells_len (by decide) (by exact h.2.1) hx1) (by omega) (by first | omega | (simp; done))) rfl (p_ rfl rfl rfl (bQ_ O_ rfl rfl rfl r_) rfl (p_ rfl rfl rfl (be_ (ad := pad) y_ rfl (fun v _ h => by exact h.2.1) (ak_ Pc.cells_len hx1 0 _ rfl)) rfl ?_)))))))))
   refine p_ rfl rfl rfl (f_ rfl) rfl ?_
   refine at_ rfl rfl rfl (aB_ rfl rfl) rfl fun r3 hr3 => ?_
   refine j_ rfl (B_ rfl rfl) rfl (L_ (I_ 26 rfl (by kernel_rfl) (an_ (cM_ r3) rfl C_ (fun _ _ _ => by exact trivial) rfl (fun hb => cg_ ((fun hq => by rw [hb] at hr3; have z := hq.2.2; rw [eN_ hx1] at z; rw [z] at hr3; simp at hr3))) fun ⟨_, hn3⟩ => ?_)))
   try dsimp only
   have hpk : dK_ p (Stp.piece s) k := ⟨by omega, by omega, by rw [eN_ hx1]; exact eq_of_beq (hr3.trans hn3)⟩
   refine d_ (q_ rfl (A_ (fun _ a b => ⟨a, b⟩) (S_ (by kernel_rfl) (b_ rfl (g_ ?_)))))
   refine cs_ ((b1, .cells #[.int .i64 (Stp.rule s), .int .i64 (Fc.kind (Stp.fact s)), str (Fc.a (Stp.fact s)), str (Fc.b (Stp.fact s)), str (Fc.r (Stp.fact s)), .int .i64 (Fc.lo (Stp.fact s)), .int .i64 (Fc.hi (Stp.fact s)), .int .i64 (Stp.piece s), .slice (Stp.ad s) (List.length (Stp.frm s)) (Stp.cap s)] 36 (0, 0)) :: []) (by kernel_rfl) ?_
   refine M_ 1 [0, 1, 2, 3, 4, 5, 6, 7] (by kernel_rfl) (fun _ a b => ⟨a.tail, b⟩) (j_ rfl (f_ rfl) rfl (j_ rfl (aY_ rfl) rfl (j_ rfl (h_ bb_ rfl rfl rfl oS_) rfl (j_ rfl (cS_ Tryz.isAgg22 rfl (fun v _ h => by exact h.1) rfl) rfl (j_ rfl (h_ K_ rfl rfl rfl r_) rfl (j_ rfl (m_ 0 y_ rfl rfl rfl) rfl (j_ rfl (ah_ aV_ aj_ rfl rfl (fun v _ h => aM_ (n := 10) Pc.cells_len (by decide) (by exact h.2.1) hx1) (by omega) (by first | omega | (simp; done))) rfl (j_ rfl (aK_ (ad := pad) (us := Pc.cells x1) gK_ aj_ rfl (fun v _ h => by exact h.2.1) (Pc.cells_len _) (ak_ Pc.cells_len hx1)) rfl (L_ ?_)))))))))
   refine I_ 8 rfl (by kernel_rfl) (X_ 0 aj_ rfl rfl rfl rfl rfl rfl (d_ (q_ rfl (A_ (fun _ a b => ⟨a.tail, b⟩) (S_ (by kernel_rfl) (b_ rfl (u_ ?_)))))))
   refine bM_ ?_
   exact fz_ ⟨(), hpk⟩ (fun aa v h1 h2 => by rw [eN_ hx1]; exact ck_ (us := Pc.cells x1) 0 Tryz.results77 gK_ aj_ rfl rfl rfl aa v h1 h2) C_ (fun _ _ _ => trivial)
end Go.Proofs.YtaffcjgphlhppaaGreatDoor
namespace Go.Proofs.YtaffcjgphlhppaaGreatDoor
open Go Go.Sx Go.Proofs
attribute [local irreducible] Code.wp wpList wpAnyH
open Go.Vs
theorem fo_ {α : Type} : ∀ {l : List α}, l.length = 2 → ∃ a b, l = [a, b]
  | [a, b], _ => ⟨a, b, rfl⟩
theorem rule_c (k : Int) (h1 : 1 ≤ k) (h2 : k ≤ 16) : ∃ g : FuncId, gJ_[3 * k.toNat]? = some (.int .i64 (ft_ k)) ∧ gJ_[3 * k.toNat + 1]? = some (.int .i64 (de_ k)) ∧ gJ_[3 * k.toNat + 2]? = some (.func (.func g) #[] #[]) ∧
    ∀ (kn : Str → Bool) (q : List Str) (_ : ∀ s, kn s = true ↔ s ∈ q) (es : Array MapEntry) (ec : Nat) (_ : SetE str es q) (vb ab : Nat) (pv fv : Value) (x : Pc) (f : Fc) (lad : Option Addr) (lcap : Nat) (l : List Fc) (_ : (l.length : Int) = ft_ k) (_ : ∀ y ∈ l, wf2 y = true) (_ : wf2 f = true) (_ : k = 14 → -1099511627776 ≤ x.lo ∧ x.lo ≤ x.hi ∧ x.hi ≤ 1099511627776),
    TriX Tryz.prog g #[.agg #[zp_ vb 0, .int .i64 f.kind, str f.a, str f.b, str f.r, .int .i64 f.lo, .int .i64 f.hi, .slice lad l.length lcap, .int .i64 x.kind, str x.a, str x.b, str x.c, str x.r, str x.s, str x.t, .int .i64 x.lo, .int .i64 x.hi, .int .i64 x.frm]] [] [bU_ vb (.cells (cE_ pv ab fv).toArray 83 (0, 0)), bU_ ab (.map es ec), aQ_ lad (List.flatMap Fc.cells l)] (fun _ : Unit => .bool (gC_ kn k x f (l.getD 0 zfc) (l.getD 1 zfc))) (fun _ => []) (fun _ => []) (gC_ kn k x f (l.getD 0 zfc) (l.getD 1 zfc) = false) := by
  have hk : k = 1 ∨ k = 2 ∨ k = 3 ∨ k = 4 ∨ k = 5 ∨ k = 6 ∨ k = 7 ∨ k = 8 ∨ k = 9 ∨ k = 10 ∨ k = 11 ∨ k = 12 ∨ k = 13 ∨ k = 14 ∨ k = 15 ∨ k = 16 := by omega
  rcases hk with rfl | rfl | rfl | rfl | rfl | rfl | rfl | rfl | rfl | rfl | rfl | rfl | rfl | rfl | rfl | rfl
  · refine ⟨128, rfl, rfl, rfl, fun kn q hkn es ec hE vb ab pv fv x f lad lcap l hl hw wf hx => ?_⟩
    obtain rfl : l = [] := List.eq_nil_of_length_eq_zero (by have q : (l.length : Int) = 0 := hl; omega)
    exact ((om_ kn q hkn es ec hE vb ab pv fv x f lad lcap).toX _)
  · refine ⟨130, rfl, rfl, rfl, fun kn q hkn es ec hE vb ab pv fv x f lad lcap l hl hw wf hx => ?_⟩
    obtain rfl : l = [] := List.eq_nil_of_length_eq_zero (by have q : (l.length : Int) = 0 := hl; omega)
    exact ((ol_ kn q hkn es ec hE vb ab pv fv x f lad lcap).toX _)
  · refine ⟨131, rfl, rfl, rfl, fun kn q hkn es ec hE vb ab pv fv x f lad lcap l hl hw wf hx => ?_⟩
    obtain ⟨ga, rfl⟩ : ∃ ga, l = [ga] := List.length_eq_one_iff.1 (by have q : (l.length : Int) = 1 := hl; omega)
    exact ((ok_ kn q hkn es ec hE vb ab pv fv x f ga lad lcap).toX _)
  · refine ⟨132, rfl, rfl, rfl, fun kn q hkn es ec hE vb ab pv fv x f lad lcap l hl hw wf hx => ?_⟩
    obtain ⟨ga, gb, rfl⟩ : ∃ ga gb, l = [ga, gb] := fo_ (by have q : (l.length : Int) = 2 := hl; omega)
    exact ((oj_ kn q hkn es ec hE vb ab pv fv x f ga gb lad lcap).toX _)
  · refine ⟨133, rfl, rfl, rfl, fun kn q hkn es ec hE vb ab pv fv x f lad lcap l hl hw wf hx => ?_⟩
    obtain ⟨ga, rfl⟩ : ∃ ga, l = [ga] := List.length_eq_one_iff.1 (by have q : (l.length : Int) = 1 := hl; omega)
    exact ((oi_ kn q hkn es ec hE vb ab pv fv x f ga lad lcap).toX _)
  · refine ⟨135, rfl, rfl, rfl, fun kn q hkn es ec hE vb ab pv fv x f lad lcap l hl hw wf hx => ?_⟩
    obtain ⟨ga, rfl⟩ : ∃ ga, l = [ga] := List.length_eq_one_iff.1 (by have q : (l.length : Int) = 1 := hl; omega)
    exact ((oh_ kn q hkn es ec hE vb ab pv fv x f ga lad lcap).toX _)
  · refine ⟨136, rfl, rfl, rfl, fun kn q hkn es ec hE vb ab pv fv x f lad lcap l hl hw wf hx => ?_⟩
    obtain ⟨ga, gb, rfl⟩ : ∃ ga gb, l = [ga, gb] := fo_ (by have q : (l.length : Int) = 2 := hl; omega)
    exact ((og_ kn q hkn es ec hE vb ab pv fv x f ga gb lad lcap).toX _)
  · refine ⟨137, rfl, rfl, rfl, fun kn q hkn es ec hE vb ab pv fv x f lad lcap l hl hw wf hx => ?_⟩
    obtain ⟨ga, gb, rfl⟩ : ∃ ga gb, l = [ga, gb] := fo_ (by have q : (l.length : Int) = 2 := hl; omega)
    exact ((of_ kn q hkn es ec hE vb ab pv fv x f ga gb lad lcap).toX _)
  · refine ⟨138, rfl, rfl, rfl, fun kn q hkn es ec hE vb ab pv fv x f lad lcap l hl hw wf hx => ?_⟩
    obtain ⟨ga, gb, rfl⟩ : ∃ ga gb, l = [ga, gb] := fo_ (by have q : (l.length : Int) = 2 := hl; omega)
    exact ((oe_ kn q hkn es ec hE vb ab pv fv x f ga gb lad lcap).toX _)
  · refine ⟨139, rfl, rfl, rfl, fun kn q hkn es ec hE vb ab pv fv x f lad lcap l hl hw wf hx => ?_⟩
    obtain rfl : l = [] := List.eq_nil_of_length_eq_zero (by have q : (l.length : Int) = 0 := hl; omega)
    exact ((mV_ kn q hkn es ec hE vb ab pv fv x f lad lcap).toX _)
  · refine ⟨140, rfl, rfl, rfl, fun kn q hkn es ec hE vb ab pv fv x f lad lcap l hl hw wf hx => ?_⟩
    obtain ⟨ga, rfl⟩ : ∃ ga, l = [ga] := List.length_eq_one_iff.1 (by have q : (l.length : Int) = 1 := hl; omega)
    exact ((mU_ kn q hkn es ec hE vb ab pv fv x f ga lad lcap).toX _)
  · refine ⟨141, rfl, rfl, rfl, fun kn q hkn es ec hE vb ab pv fv x f lad lcap l hl hw wf hx => ?_⟩
    obtain ⟨ga, gb, rfl⟩ : ∃ ga gb, l = [ga, gb] := fo_ (by have q : (l.length : Int) = 2 := hl; omega)
    exact (mT_ kn q hkn es ec hE vb ab pv fv x f ga gb lad lcap (hw _ (by simp)) (hw _ (by simp)) wf)
  · refine ⟨142, rfl, rfl, rfl, fun kn q hkn es ec hE vb ab pv fv x f lad lcap l hl hw wf hx => ?_⟩
    obtain ⟨ga, gb, rfl⟩ : ∃ ga gb, l = [ga, gb] := fo_ (by have q : (l.length : Int) = 2 := hl; omega)
    exact (mS_ kn q hkn es ec hE vb ab pv fv x f ga gb lad lcap (hw _ (by simp)) (hw _ (by simp)))
  · refine ⟨143, rfl, rfl, rfl, fun kn q hkn es ec hE vb ab pv fv x f lad lcap l hl hw wf hx => ?_⟩
    obtain ⟨ga, rfl⟩ : ∃ ga, l = [ga] := List.length_eq_one_iff.1 (by have q : (l.length : Int) = 1 := hl; omega)
    exact (mR_ kn q hkn es ec hE vb ab pv fv x f ga lad lcap (hw _ (by simp)) (hx rfl))
  · refine ⟨144, rfl, rfl, rfl, fun kn q hkn es ec hE vb ab pv fv x f lad lcap l hl hw wf hx => ?_⟩
    obtain ⟨ga, rfl⟩ : ∃ ga, l = [ga] := List.length_eq_one_iff.1 (by have q : (l.length : Int) = 1 := hl; omega)
    exact ((mQ_ kn q hkn es ec hE vb ab pv fv x f ga lad lcap).toX _)
  · refine ⟨145, rfl, rfl, rfl, fun kn q hkn es ec hE vb ab pv fv x f lad lcap l hl hw wf hx => ?_⟩
    obtain ⟨ga, rfl⟩ : ∃ ga, l = [ga] := List.length_eq_one_iff.1 (by have q : (l.length : Int) = 1 := hl; omega)
    exact (mP_ kn q hkn es ec hE vb ab pv fv x f ga lad lcap (hw _ (by simp)) wf)
theorem lZ_ {P : Program} {N : Nf} {fr : Fr} {H : Hp} {Γ : List Fct} {ty t : TypeId} {x : Operand} {vb ab : Nat} {pv fv u0 u1 u2 : Value} {T : TypeId} {k : Nat} (ha : ∀ w, (isAgg t).run P w = .ok true w) (hs : ∀ w, (sizeOf t).run P w = .ok 3 w) (h0 : gJ_[3 * k]? = some u0) (h1 : gJ_[3 * k + 1]? = some u1) (h2 : gJ_[3 * k + 2]? = some u2)
    (hx : Fr.ev fr x = some (.pointer (some ⟨vb, 3 + k * 3, none⟩))) (hv : ∀ v, v.sat H → ay_ Γ v → (bU_ vb (.cells (cE_ pv ab fv).toArray T (0, 0))).p v) : Yld P N fr H Γ (.load t x) ty (.agg #[u0, u1, u2]) :=
  fh_ hx fun v g2 g4 => cr_ (n := 3) (cs := [u0, u1, u2]) ha hs rfl fun j y hj => by
    have hb := (hv v g2 g4).2
    have key : ∀ i, (cE_ pv ab fv)[3 + i]? = gJ_[i]? := fun i => by rw [Nat.add_comm]; rfl
    have e : ∀ i u, gJ_[3 * k + i]? = some u → v.w.cell? ⟨vb, 3 + k * 3 + i, none⟩ = some u := fun i u hu => by
      have := key (3 * k + i)
      rw [hu] at this
      simp only [World.cell?, hb]
      rw [show 3 + k * 3 + i = 3 + (3 * k + i) by omega]
      simpa using this
    match j with
    | 0 => simp at hj; subst hj; exact e 0 _ h0
    | 1 => simp at hj; subst hj; exact e 1 _ h1
    | 2 => simp at hj; subst hj; exact e 2 _ h2
    | j + 3 => simp at hj
theorem np_ {p : List Pc} {fs : List Fc} {s : Stp} (h : ¬ (1 ≤ s.rule ∧ s.rule ≤ 16)) : cV_ p fs s = false := by
  rw [Bool.eq_false_iff]; intro q
  simp only [cV_, Bool.and_eq_true, decide_eq_true_eq] at q
  exact h ⟨q.1, q.2.1⟩
theorem corB_w {p : List Pc} {fs : List Fc} {s : Stp} (h : wf2 s.fact = false) : cV_ p fs s = false := by
  rw [Bool.eq_false_iff]; intro q
  simp only [cV_, Bool.and_eq_true, decide_eq_true_eq] at q
  rw [h] at q; exact absurd q.2.2.1 (by simp)
theorem corB_m {p : List Pc} {fs : List Fc} {s : Stp} (h : ¬ jh_ fs s.frm (ft_ s.rule)) : cV_ p fs s = false := by
  rw [Bool.eq_false_iff]; intro q
  simp only [cV_, Bool.and_eq_true, decide_eq_true_eq] at q
  exact h ⟨q.2.2.2.1, q.2.2.2.2.1⟩
theorem nq_ {p : List Pc} {fs : List Fc} {s : Stp} (h : eY_ p s.rule s.piece = false) : cV_ p fs s = false := by
  rw [Bool.eq_false_iff]; intro q
  simp only [cV_, Bool.and_eq_true, decide_eq_true_eq] at q
  rw [h] at q; exact absurd q.2.2.2.2.2.1 (by simp)
theorem gQ_ {p : List Pc} {fs : List Fc} {s : Stp} (hr : 1 ≤ s.rule ∧ s.rule ≤ 16) (wf : wf2 s.fact = true) (hm : jh_ fs s.frm (ft_ s.rule)) (hp : eY_ p s.rule s.piece = true) :
    cV_ p fs s = gC_ (dl_ p) s.rule (iM_ p s.rule s.piece) s.fact ((bN_ fs s.frm).getD 0 zfc) ((bN_ fs s.frm).getD 1 zfc) := by
  unfold cV_
  rw [decide_eq_true hr.1, decide_eq_true hr.2, wf, decide_eq_true hm.1, hm.2, hp]
  simp only [Bool.true_and]
theorem fV_ {p : List Pc} {k q : Int} (hk : de_ k = 0) : eY_ p k q = decide (q = -1) := if_pos hk
theorem fU_ {p : List Pc} {k q : Int} (hk : de_ k ≠ 0) : eY_ p k q = true ↔ dK_ p q (de_ k) := by
  unfold eY_ dK_
  rw [if_neg hk]
  simp only [Bool.and_eq_true, decide_eq_true_eq]
theorem hZ_ {fs : List Fc} {frm : List Int} (h : eX_ fs frm = true) : ∀ y ∈ bN_ fs frm, wf2 y = true := fun y hy => by
  obtain ⟨q, hq, rfl⟩ := List.mem_map.1 hy
  exact (dt_ h hq).2.2
theorem hf_ {fs : List Fc} {frm : List Int} : (bN_ fs frm).length = frm.length := by simp [bN_]
theorem mI_ {a : Nat × Obj} {F : Hp} : List.Perm (a :: F) (a :: F) := .refl _
theorem oV_ {a b : Nat × Obj} {F : Hp} : List.Perm (b :: a :: F) (a :: b :: F) := .swap _ _ _
theorem kV_ {a b c : Nat × Obj} {F : Hp} : List.Perm (c :: b :: a :: F) (a :: c :: b :: F) := ((oV_ (F := F)).cons c).trans (.swap _ _ _)
theorem mD_ {P : Program} {N : Nf} {fr : Fr} {H : Hp} {fn : Func} {t b : Nat} {ty T : TypeId} {u : Value} (i : Nat) (hr : fn.results = #[.cell t ty]) (ha : ∀ w, (isAgg ty).run P w = .ok false w) (hx : Fr.get fr t = some (zp_ b 0)) (hi : H[i]? = some (b, .cells #[u] T (0, 0))) (a : Act) (v : Vw) (h1 : Fr.sat N fr a) (h2 : v.sat H) :
    (results fn a.tmps).run P v.w = .ok u v.w := by
  have e := h1.val t _ hx
  have hb := (h2.own _ (List.mem_of_getElem? hi)).1
  have hc : v.w.cell? ⟨b, 0, none⟩ = some u := by simp [World.cell?, hb]
  simp [results, hr, e, asAddr, bK_ ha hc]
theorem iv_ (p : List Pc) (pad : Option Addr) (pcap : Nat) (fs : List Fc) (fad : Option Addr) (fcap : Nat) (vb ab : Nat) (s : Stp) (q : List Str) (hkn : ∀ s, dl_ p s = true ↔ s ∈ q) (es : Array MapEntry) (ec : Nat) (hE : SetE str es q) (hpl : p.length ≤ 10000000) (hpv : ∀ k : Int, k = 14 → dK_ p s.piece (de_ k) → -1099511627776 ≤ (p.getD s.piece.toNat zpc).lo ∧ (p.getD s.piece.toNat zpc).lo ≤ (p.getD s.piece.toNat zpc).hi ∧ (p.getD s.piece.toNat zpc).hi ≤ 1099511627776) (hfl : fs.length ≤ 10000000) (hfr : s.frm.length ≤ 1000000) (hfs : ∀ x ∈ fs, x.sml) (hsf : s.fact.sml) : Tri Tryz.prog 32 #[zp_ vb 0, Stp.val s] [] [bU_ vb (.cells (cE_ (.slice pad p.length pcap) ab (.slice fad fs.length fcap)).toArray 83 (0, 0)), bU_ ab (.map es ec), aQ_ pad (List.flatMap Pc.cells p), aQ_ fad (List.flatMap Fc.cells fs), aQ_ (Stp.ad s) (List.flatMap cU_ (Stp.frm s))] (fun y : {y : Bool // y = cV_ p fs s} => .bool y.1) (fun _ => []) (fun _ => []) := by
 refine fK_ Tryz.func32 rfl rfl Tryz.ntmps32 rfl fun v0 => ?_
 refine g_ (c_ (aN_ rfl rfl fun b1 => ?_))
 refine ae_ Tryz.zeroValue4 rfl fun b2 => ?_
 refine d_ (b_ rfl (g_ (c_ (a_ (cW_ rfl rfl) rfl (ie_ (N := 56) (D := []) rfl rfl rfl (d_ (b_ rfl (g_ (c_ ?_)))))))))
 refine a_ (h_ K_ rfl rfl rfl r_) rfl (a_ (m_ 1 y_ rfl rfl rfl) rfl (E_ (bY_ rfl rfl) rfl fun r1 hr1 => ?_))
 refine a_ (f_ rfl) rfl ?_
 cases r1
 ·
  replace hr1 := of_decide_eq_false hr1
  refine n_ rfl rfl rfl rfl (n_ rfl rfl rfl rfl (n_ rfl rfl rfl rfl (a_ (t_ rfl rfl) rfl (a_ (f_ rfl) rfl (n_ rfl rfl rfl rfl (n_ rfl rfl rfl rfl (n_ rfl rfl rfl rfl (a_ (t_ rfl rfl) rfl (an_ (cM_ false) rfl C_ (fun _ _ _ => by exact trivial) rfl (fun hb => gz_ (x := .bool false) (X := cV_ p fs s) (np_ (by omega)) rfl (mI_)) fun ⟨_, hn1⟩ => ?_)))))))))
  try dsimp only
  cases hn1
 ·
  replace hr1 := of_decide_eq_true hr1
  refine l_ rfl rfl (a_ (h_ K_ rfl rfl rfl r_) rfl (l_ rfl rfl (a_ (m_ 1 y_ rfl rfl rfl) rfl (l_ rfl rfl (E_ (au_ rfl rfl) rfl fun r2 hr2 => ?_)))))
  refine a_ (B_ rfl rfl) rfl (a_ (f_ rfl) rfl ?_)
  cases r2
  ·
   replace hr2 := of_decide_eq_false hr2
   refine n_ rfl rfl rfl rfl (n_ rfl rfl rfl rfl (n_ rfl rfl rfl rfl (a_ (t_ rfl rfl) rfl (an_ (cM_ false) rfl C_ (fun _ _ _ => by exact trivial) rfl (fun hb => gz_ (x := .bool false) (X := cV_ p fs s) (np_ (by omega)) rfl (mI_)) fun ⟨_, hn2⟩ => ?_))))
   try dsimp only
   cases hn2
  ·
   replace hr2 := of_decide_eq_true hr2
   refine l_ rfl rfl (a_ (h_ K_ rfl rfl rfl k_) rfl (l_ rfl rfl (a_ (P_ 1 R_ k_ rfl rfl rfl) rfl (l_ rfl rfl (af_ (oX_ (Stp.fact s) hsf) rfl C_ (fun _ _ _ => by exact trivial) rfl fun r3 hr3 => ?_)))))
   refine a_ (B_ rfl rfl) rfl (an_ (cM_ r3) rfl C_ (fun _ _ _ => by exact trivial) rfl (fun hb => gz_ (x := .bool false) (X := cV_ p fs s) (corB_w (hr3.trans hb)) rfl (mI_)) fun ⟨_, hn3⟩ => ?_)
   try dsimp only
   have wf : wf2 (Stp.fact s) = true := hr3.trans hn3
   have hru : 1 ≤ Stp.rule s ∧ Stp.rule s ≤ 16 := by omega
   obtain ⟨gk, hr0, hr1, hr2, hT⟩ := rule_c (Stp.rule s) hru.1 hru.2
   refine d_ (b_ rfl (g_ ?_))
   refine nR_ (ι := {y : Nat // True}) (fun y => [(0, zp_ vb 0), (3, zp_ b1 0), (4, zp_ b2 0), (5, zp_ y.1 0)]) (fun y => ((b1, .cells #[.int .i64 (Stp.rule s), .int .i64 (Fc.kind (Stp.fact s)), str (Fc.a (Stp.fact s)), str (Fc.b (Stp.fact s)), str (Fc.r (Stp.fact s)), .int .i64 (Fc.lo (Stp.fact s)), .int .i64 (Fc.hi (Stp.fact s)), .int .i64 (Stp.piece s), .slice (Stp.ad s) (List.length (Stp.frm s)) (Stp.cap s)] 36 (0, 0)) :: ((b2, .cells #[.bool false] 4 (0, 0)) :: ((y.1, .cells #[.int .i64 (ft_ (Stp.rule s)), .int .i64 (de_ (Stp.rule s)), .func (.func gk) #[] #[]] 80 (0, 0)) :: [])))) (fun y => [bU_ vb (.cells (cE_ (.slice pad p.length pcap) ab (.slice fad fs.length fcap)).toArray 83 (0, 0)), bU_ ab (.map es ec), aQ_ pad (List.flatMap Pc.cells p), aQ_ fad (List.flatMap Fc.cells fs), aQ_ (Stp.ad s) (List.flatMap cU_ (Stp.frm s))]) ?_ ?_
   ·
    refine cs_ ((b2, .cells #[.bool false] 4 (0, 0)) :: ((b1, .cells #[.int .i64 (Stp.rule s), .int .i64 (Fc.kind (Stp.fact s)), str (Fc.a (Stp.fact s)), str (Fc.b (Stp.fact s)), str (Fc.r (Stp.fact s)), .int .i64 (Fc.lo (Stp.fact s)), .int .i64 (Fc.hi (Stp.fact s)), .int .i64 (Stp.piece s), .slice (Stp.ad s) (List.length (Stp.frm s)) (Stp.cap s)] 36 (0, 0)) :: [])) (by kernel_rfl) ?_
    refine M_ 2 [0, 1, 2, 3, 4, 5, 6] (by kernel_rfl) (fun _ a b => ⟨a, b⟩) (j_ rfl (f_ rfl) rfl (j_ rfl (h_ K_ rfl rfl rfl r_) rfl (j_ rfl (m_ 1 y_ rfl rfl rfl) rfl (j_ rfl (aY_ rfl) rfl (j_ rfl (h_ bb_ rfl rfl rfl Tryz.sizeOf81) rfl (j_ rfl (bW_ (dM_ (off := 3) Tryz.runUnderlying81 Tryz.sizeOf80 rfl rfl (by omega) (by omega)) (show _ = Value.pointer (some ⟨vb, 3 + (Int.toNat (Stp.rule s)) * 3, none⟩) from rfl)) rfl (j_ rfl (lZ_ Tryz.isAgg80 Tryz.sizeOf80 hr0 hr1 hr2 rfl (fun v _ h => by exact h.1)) rfl (L_ (I_ 7 rfl (by kernel_rfl) ?_)))))))))
    refine ae_ Tryz.zeroValue80 rfl fun b3 => ?_
    refine d_ (q_ rfl (A_ (fun _ a b => ⟨a.tail, b⟩) (I_ 8 rfl (by kernel_rfl) (X_ 0 Tryz.sizeOf80 rfl rfl rfl rfl rfl rfl (d_ (q_ rfl (A_ (fun _ a b => ⟨a.tail, b⟩) (S_ (by kernel_rfl) (ge_ rfl ?_)))))))))
    exact jJ_ ⟨b3, trivial⟩ ⟨rfl, rfl, rfl, rfl, trivial⟩ (N_ (H_ (H_ D_)) (N_ (H_ D_) D_)) (fun v _ h => by exact ⟨h.1, h.2.1, h.2.2.1, h.2.2.2.1, h.2.2.2.2.1, trivial⟩)
   ·
    rintro ⟨z3_7, _⟩
    dsimp only
    refine cG_ [(0, zp_ vb 0), (3, zp_ b1 0), (4, zp_ b2 0), (5, zp_ z3_7 0)] ⟨rfl, rfl, rfl, rfl, trivial⟩ ?_
    refine b_ rfl (g_ (c_ (a_ (f_ rfl) rfl (a_ (P_ 0 bV_ al_ rfl rfl rfl) rfl (a_ (h_ dP_ rfl rfl rfl r_) rfl (a_ (m_ 2 y_ rfl rfl rfl) rfl (an_ (ko_ p pad pcap fs fad fcap vb ab s (ft_ (Stp.rule s)) hfl hfr hfs) rfl C_ (fun v _ h => by exact ⟨h.1, h.2.2.2.1, h.2.2.2.2.1, trivial⟩) rfl (fun hb => gz_ (x := .bool false) (X := cV_ p fs s) (corB_m hb) rfl (oV_)) fun ⟨⟨lad, lcap⟩, hPm⟩ => ?_)))))))
    try dsimp only
    refine a_ (e_ rfl) rfl (d_ (b_ rfl (g_ (c_ (ae_ Tryz.zeroValue73 rfl fun b4 => ?_)))))
    refine d_ (b_ rfl (g_ (g_ (c_ (a_ (h_ dP_ rfl rfl rfl r_) rfl (a_ (m_ 3 y_ rfl rfl rfl) rfl (E_ (aB_ rfl rfl) rfl fun r4 hr4 => ?_)))))))
    refine d_ (b_ rfl ?_)
    cases r4
    ·
     replace hr4 := ne_of_beq_false hr4
     have hz : de_ (Stp.rule s) ≠ 0 := by omega
     refine z_ rfl (c_ (a_ (f_ rfl) rfl (a_ (P_ 1 bV_ al_ rfl rfl rfl) rfl (a_ (h_ dP_ rfl rfl rfl r_) rfl (a_ (m_ 3 y_ rfl rfl rfl) rfl (an_ (nW_ p pad pcap fs fad fcap vb ab s (de_ (Stp.rule s)) hpl) rfl C_ (fun v _ h => by exact ⟨h.2.1, h.2.2.2.1, trivial⟩) rfl (fun hb => gz_ (x := .bool false) (X := cV_ p fs s) (nq_ (Bool.eq_false_iff.2 fun hq => hb ((fU_ hz).1 hq))) rfl (kV_)) fun ⟨_, hPk⟩ => ?_))))))
     try dsimp only
     have hpb : eY_ p (Stp.rule s) (Stp.piece s) = true := (fU_ hz).2 hPk
     have hpl8 : (List.getD p (Int.toNat (Stp.piece s)) zpc) = iM_ p (Stp.rule s) (Stp.piece s) := (if_neg hz).symm
     refine X_ 0 aj_ rfl rfl rfl rfl rfl rfl (d_ (b_ rfl (g_ (c_ (a_ (h_ dP_ rfl rfl rfl Tryz.sizeOf78) rfl (a_ (m_ 3 Tryz.isAgg78 rfl rfl rfl) rfl (a_ (f_ rfl) rfl (a_ (h_ K_ rfl rfl rfl k_) rfl (a_ (P_ 1 R_ k_ rfl rfl rfl) rfl ?_)))))))))
     refine a_ (f_ rfl) rfl (a_ (P_ 0 gK_ aj_ rfl rfl rfl) rfl (a_ (az_ kR_ rfl rfl) rfl (eI_ (hT (dl_ p) q hkn es ec hE vb ab (.slice pad p.length pcap) (.slice fad fs.length fcap) (List.getD p (Int.toNat (Stp.piece s)) zpc) (Stp.fact s) lad lcap (bN_ fs (Stp.frm s)) (by rw [hf_]; exact hPm.1) (hZ_ hPm.2) wf (fun h14 => hpv _ h14 hPk)) rfl rfl C_ (fun v _ h => by exact ⟨h.2.1, h.2.2.1, h.1, trivial⟩) rfl (fun hb => gz_ (x := .bool false) (X := cV_ p fs s) ((gQ_ hru wf hPm hpb).trans (by rw [← hpl8]; exact hb)) rfl (kV_)) fun _ => ?_)))
     refine X_ 2 aX_ rfl rfl rfl rfl rfl rfl (d_ (b_ rfl (u_ ?_)))
     have hfin : (gC_ (dl_ p) (Stp.rule s) (List.getD p (Int.toNat (Stp.piece s)) zpc) (Stp.fact s) (List.getD (bN_ fs (Stp.frm s)) 0 zfc) (List.getD (bN_ fs (Stp.frm s)) 1 zfc)) = cV_ p fs s := by have z := gQ_ hru wf hPm hpb; rw [← hpl8] at z; exact z.symm
     exact mA_ (F := _) ⟨(gC_ (dl_ p) (Stp.rule s) (List.getD p (Int.toNat (Stp.piece s)) zpc) (Stp.fact s) (List.getD (bN_ fs (Stp.frm s)) 0 zfc) (List.getD (bN_ fs (Stp.frm s)) 1 zfc)), hfin⟩ (mZ_ b2) (nh_ b2) (fun a v h1 h2 => mD_ 2 Tryz.results32 bh_ rfl rfl a v h1 h2) C_ (fun _ _ _ => trivial)
    ·
     replace hr4 := eq_of_beq hr4
     have hz : de_ (Stp.rule s) = 0 := by omega
     refine x_ rfl (c_ (a_ (h_ K_ rfl rfl rfl r_) rfl (a_ (m_ 1 y_ rfl rfl rfl) rfl (E_ (aB_ rfl rfl) rfl fun r5 hr5 => ?_))))
     refine an_ (cM_ r5) rfl C_ (fun _ _ _ => by exact trivial) rfl (fun hb => gz_ (x := .bool false) (X := cV_ p fs s) (nq_ (by rw [fV_ hz]; rw [hb] at hr5; simpa using hr5)) rfl (kV_)) fun ⟨_, hn4⟩ => ?_
     try dsimp only
     have hpb : eY_ p (Stp.rule s) (Stp.piece s) = true := by rw [fV_ hz]; have z := hr5.trans hn4; simpa using z
     have hpl8 : zpc = iM_ p (Stp.rule s) (Stp.piece s) := (if_pos hz).symm
     refine d_ (b_ rfl (g_ (c_ (a_ (h_ dP_ rfl rfl rfl Tryz.sizeOf78) rfl (a_ (m_ 3 Tryz.isAgg78 rfl rfl rfl) rfl (a_ (f_ rfl) rfl (a_ (h_ K_ rfl rfl rfl k_) rfl (a_ (P_ 1 R_ k_ rfl rfl rfl) rfl (a_ (f_ rfl) rfl ?_)))))))))
     refine a_ (P_ 0 gK_ aj_ rfl rfl rfl) rfl (a_ (az_ kR_ rfl rfl) rfl (eI_ (hT (dl_ p) q hkn es ec hE vb ab (.slice pad p.length pcap) (.slice fad fs.length fcap) (Pc.mk 0 [] [] [] [] [] [] 0 0 0) (Stp.fact s) lad lcap (bN_ fs (Stp.frm s)) (by rw [hf_]; exact hPm.1) (hZ_ hPm.2) wf (fun h14 => (by have := hz; rw [h14] at this; exact absurd this (by decide)))) rfl rfl C_ (fun v _ h => by exact ⟨h.2.1, h.2.2.1, h.1, trivial⟩) rfl (fun hb => gz_ (x := .bool false) (X := cV_ p fs s) ((gQ_ hru wf hPm hpb).trans (by rw [← hpl8]; exact hb)) rfl (kV_)) fun _ => ?_))
     refine X_ 2 aX_ rfl rfl rfl rfl rfl rfl (d_ (b_ rfl (u_ ?_)))
     have hfin : (gC_ (dl_ p) (Stp.rule s) (Pc.mk 0 [] [] [] [] [] [] 0 0 0) (Stp.fact s) (List.getD (bN_ fs (Stp.frm s)) 0 zfc) (List.getD (bN_ fs (Stp.frm s)) 1 zfc)) = cV_ p fs s := by have z := gQ_ hru wf hPm hpb; rw [← hpl8] at z; exact z.symm
     exact mA_ (F := _) ⟨(gC_ (dl_ p) (Stp.rule s) (Pc.mk 0 [] [] [] [] [] [] 0 0 0) (Stp.fact s) (List.getD (bN_ fs (Stp.frm s)) 0 zfc) (List.getD (bN_ fs (Stp.frm s)) 1 zfc)), hfin⟩ (mZ_ b2) (nh_ b2) (fun a v h1 h2 => mD_ 2 Tryz.results32 bh_ rfl rfl a v h1 h2) C_ (fun _ _ _ => trivial)
end Go.Proofs.YtaffcjgphlhppaaGreatDoor
namespace Go.Proofs.YtaffcjgphlhppaaGreatDoor
open Go Go.Sx Go.Proofs
attribute [local irreducible] Code.wp wpList wpAnyH
open Go.Vs
theorem valid9 {x : Pc} (h : x.valid = true) (hk : x.kind = 9) : -1099511627776 ≤ x.lo ∧ x.lo ≤ x.hi ∧ x.hi ≤ 1099511627776 := by
  unfold Pc.valid at h
  split at h
  · simp at h
  rename_i h1
  split at h
  · simp at h
  rename_i h2
  rw [hk] at h2
  have : (nus 9).numbers = true := by decide
  simp only [this, true_and] at h2
  omega
theorem eA_ {p : List Pc} (h : cp_ p = 0) : p.length ≤ 16384 ∧ ∀ x ∈ p, x.valid = true := by
  unfold cp_ at h
  split at h
  · simp at h
  · split at h
    · rename_i h2; exact ⟨by omega, fun x hx => List.all_eq_true.1 h2 x hx⟩
    · simp at h
theorem gy_ {p : List Pc} (h : cp_ p = 0) (q : Int) : ∀ k : Int, k = 14 → dK_ p q (de_ k) → -1099511627776 ≤ (p.getD q.toNat zpc).lo ∧ (p.getD q.toNat zpc).lo ≤ (p.getD q.toNat zpc).hi ∧ (p.getD q.toNat zpc).hi ≤ 1099511627776 := fun k hk hq => by
  subst hk
  obtain ⟨h1, h2, h3⟩ := hq
  have hlt : q.toNat < p.length := by omega
  have e := List.getElem?_eq_getElem hlt
  rw [eN_ e] at h3 ⊢
  exact valid9 ((eA_ h).2 _ (List.getElem_mem hlt)) h3
theorem kD_ (p : List Pc) (pad : Option Addr) (pcap : Nat) (fs : List Fc) (fad : Option Addr) (fcap : Nat) (vb ab : Nat) (s : Stp) (q : List Str) (hkn : ∀ s, dl_ p s = true ↔ s ∈ q) (es : Array MapEntry) (ec : Nat) (hE : SetE str es q) (hc : cp_ p = 0) (hfl : fs.length ≤ 10000000) (hfr : s.frm.length ≤ 1000000) (hfs : ∀ x ∈ fs, x.sml) (hsf : s.fact.sml) : Tri Tryz.prog 32 #[zp_ vb 0, s.val] [(vb, .cells (cE_ (.slice pad p.length pcap) ab (.slice fad fs.length fcap)).toArray 83 (0, 0)), (ab, .map es ec)] [aQ_ pad (List.flatMap Pc.cells p), aQ_ fad (List.flatMap Fc.cells fs), aQ_ (Stp.ad s) (List.flatMap cU_ (Stp.frm s))] (fun y : {y : Bool // y = cV_ p fs s} => .bool y.1) (fun _ => [(vb, .cells (cE_ (.slice pad p.length pcap) ab (.slice fad fs.length fcap)).toArray 83 (0, 0)), (ab, .map es ec)]) (fun _ => []) := by
  have T := jn_ (Γ0 := [aQ_ pad (List.flatMap Pc.cells p), aQ_ fad (List.flatMap Fc.cells fs), aQ_ (Stp.ad s) (List.flatMap cU_ (Stp.frm s))]) [(vb, .cells (cE_ (.slice pad p.length pcap) ab (.slice fad fs.length fcap)).toArray 83 (0, 0)), (ab, .map es ec)] (iv_ p pad pcap fs fad fcap vb ab s q hkn es ec hE (by have := (eA_ hc).1; omega) (gy_ hc s.piece) hfl hfr hfs hsf) (fun v hB hv => ⟨hB _ List.mem_cons_self, hB _ (List.mem_cons_of_mem _ List.mem_cons_self), hv.1, hv.2.1, hv.2.2.1, trivial⟩)
  simpa using T
theorem gm_ {e sz n : Nat} {sv : Value} {xs : List Value} {Hr : Hp} (h : bu_ e sz sv n xs Hr) : ∃ ad cap, sv = .slice ad n cap ∧ ∀ v : Vw, (∀ p ∈ Hr, v.im p.1 ∧ v.w.heap[p.1]? = some p.2) → bF_ v ad xs := by
  have h0 := h
  obtain ⟨hl, ⟨rfl, rfl, rfl⟩ | ⟨g, cap, cur, rfl, rfl, h3, h4, h5, h6⟩⟩ := h0
  · exact ⟨none, 0, rfl, fun v _ => .inl (List.eq_nil_of_length_eq_zero (by simpa using hl))⟩
  · refine ⟨some ⟨g, 0, none⟩, cap, rfl, fun v hv => ?_⟩
    obtain ⟨ad, cp, e, _, _, _, hr⟩ := ls_ h hv
    simp only [Value.slice.injEq] at e
    rw [e.1]; exact hr
theorem kE_ (p : List Pc) (pad : Option Addr) (pcap : Nat) (fs : List Fc) (sv : Value) (HF : Hp) (hr : bu_ 24 6 sv fs.length (List.flatMap Fc.cells fs) HF) (vb ab : Nat) (s : Stp) (q : List Str) (hkn : ∀ s, dl_ p s = true ↔ s ∈ q) (es : Array MapEntry) (ec : Nat) (hE : SetE str es q) (hc : cp_ p = 0) (hfl : fs.length ≤ 10000000) (hfr : s.frm.length ≤ 1000000) (hfs : ∀ x ∈ fs, x.sml) (hsf : s.fact.sml) : Tri Tryz.prog 32 #[zp_ vb 0, s.val] ((vb, .cells (cE_ (.slice pad p.length pcap) ab sv).toArray 83 (0, 0)) :: (ab, .map es ec) :: HF) [aQ_ pad (List.flatMap Pc.cells p), aQ_ (Stp.ad s) (List.flatMap cU_ (Stp.frm s))] (fun y : {y : Bool // y = cV_ p fs s} => .bool y.1) (fun _ => (vb, .cells (cE_ (.slice pad p.length pcap) ab sv).toArray 83 (0, 0)) :: (ab, .map es ec) :: HF) (fun _ => []) := by
  obtain ⟨fad, fcap, rfl, hrow⟩ := gm_ hr
  have T := jn_ (Γ0 := [aQ_ pad (List.flatMap Pc.cells p), aQ_ (Stp.ad s) (List.flatMap cU_ (Stp.frm s))]) ((vb, .cells (cE_ (.slice pad p.length pcap) ab (.slice fad fs.length fcap)).toArray 83 (0, 0)) :: (ab, .map es ec) :: HF) (iv_ p pad pcap fs fad fcap vb ab s q hkn es ec hE (by have := (eA_ hc).1; omega) (gy_ hc s.piece) hfl hfr hfs hsf) (fun v hB hv => ⟨hB _ List.mem_cons_self, hB _ (List.mem_cons_of_mem _ List.mem_cons_self), hv.1, hrow v (fun x hx => hB x (List.mem_cons_of_mem _ (List.mem_cons_of_mem _ hx))), hv.2.1, trivial⟩)
  simpa using T
theorem iN_ {P : Program} {N : Nf} {v0 : Vw} {H0 : Hp} {R : Exit → Act → World → Prop} {K : List Kt} {fr : Fr} {H F : Hp} {Γ : List Fct} {ops : Array Oper} {l : List Oper} {ty : TypeId} {ps : String} {af : Array Edge} {t : TypeId} {x y : Operand} {vb ab : Nat} {pv fv : Value} {T : TypeId} {ad : Option Addr} {n c : Nat} (hs : ∀ w, (sizeOf t).run P w = .ok 1 w)
    (hx : Fr.ev fr x = some (zp_ vb 2)) (hy : Fr.ev fr y = some (.slice ad n c)) (hp : H.Perm ([(vb, .cells (cE_ pv ab fv).toArray T (0, 0))] ++ F)) (ho : (Value.slice ad n c).oneCell' = true)
    (hk : Ops P R N v0 H0 ops l K fr ((vb, .cells (cE_ pv ab (.slice ad n c)).toArray T (0, 0)) :: F) Γ) : Ops P R N v0 H0 ops (⟨none, .store t x y, ty, ps, af, none⟩ :: l) K fr H Γ := by
  refine bd_ hp (X_ 0 hs hx hy rfl rfl (by rfl) (by simp only [Value.cells, List.all_cons, List.all_nil, ho, Bool.and_true]) ?_)
  simp only [List.cons_append, List.nil_append, List.set_cons_zero]
  exact hk
def gS_ (p : List Pc) (l : List Stp) : Prop := ∀ (j : Nat) (s : Stp), l[j]? = some s → cV_ p (fcs (l.take j)) s = true
def hP_ (p : List Pc) (f : Fc) (l : List Stp) (e : Int) : Prop :=
  (cp_ p ≠ 0 ∧ e = cp_ p) ∨ (cp_ p = 0 ∧ 65536 < l.length ∧ e = 2) ∨
  (cp_ p = 0 ∧ l.length ≤ 65536 ∧ ((gS_ p l ∧ (∃ t, l[l.length - 1]? = some t ∧ t.fact = f) ∧ e = 0) ∨ (¬ (gS_ p l ∧ ∃ t, l[l.length - 1]? = some t ∧ t.fact = f) ∧ e = 120)))
theorem ix_ {p : List Pc} {f : Fc} {l : List Stp} {e e' : Int} (h : hP_ p f l e) (h' : hP_ p f l e') : e = e' := by
  rcases h with ⟨a, rfl⟩ | ⟨a, b, rfl⟩ | ⟨a, b, ⟨c1, c2, rfl⟩ | ⟨c, rfl⟩⟩ <;> rcases h' with ⟨a', rfl⟩ | ⟨a', b', rfl⟩ | ⟨a', b', ⟨d1, d2, rfl⟩ | ⟨d, rfl⟩⟩ <;> first | rfl | (exfalso; omega) | exact absurd ⟨c1, c2⟩ d | exact absurd ⟨d1, d2⟩ c
theorem lU_ {p : List Pc} {f : Fc} {l : List Stp} {j : Nat} {s : Stp} (hc : cp_ p = 0) (hl : l.length ≤ 65536) (hs : l[j]? = some s) (hf : cV_ p (fcs (l.take j)) s = false) : hP_ p f l 120 :=
  .inr (.inr ⟨hc, hl, .inr ⟨fun q => by have := q.1 j s hs; rw [hf] at this; exact absurd this (by simp), rfl⟩⟩)
theorem jY_ {l : List Stp} {i : Nat} {s : Stp} (hs : l[i]? = some s) : fcs (l.take (i + 1)) = fcs (l.take i) ++ [s.fact] := by
  rw [List.take_add_one, hs, Option.toList_some, fE_]; rfl
theorem oB_ {l : List Stp} {i : Nat} (h : ∀ s ∈ l, s.fact.sml) : ∀ x ∈ fcs (l.take i), x.sml := fun x hx => by
  obtain ⟨s, hs, rfl⟩ := List.mem_map.1 hx
  exact h s (List.mem_of_mem_take hs)
theorem step_c (p : List Pc) (pad : Option Addr) (pcap : Nat) (fs : List Fc) (fad : Option Addr) (fcap : Nat) (s : Stp) (hpl : p.length ≤ 10000000) (hsm : ∀ x ∈ p, x.sm) (hfl : fs.length ≤ 10000000) (hfr : s.frm.length ≤ 1000000) (hfs : ∀ x ∈ fs, x.sml) (hsf : s.fact.sml) : Tri Tryz.prog 71 #[.slice pad (List.length p) pcap, .slice fad (List.length fs) fcap, Stp.val s] [] [aQ_ pad (List.flatMap Pc.cells p), aQ_ fad (List.flatMap Fc.cells fs), aQ_ (Stp.ad s) (List.flatMap cU_ (Stp.frm s)), gX_] (fun y : {e : Int // cp_ p ≠ 0 ∧ e = cp_ p ∨ cp_ p = 0 ∧ e = if cV_ p fs s = true then 0 else 120} => .int .i64 y.1) (fun _ => []) (fun _ => []) := by
  refine T_ Tryz.func71 rfl rfl Tryz.ntmps71 rfl fun v0 => ?_
  refine g_ (c_ (aN_ rfl rfl fun b1 => ?_))
  refine a_ (e_ rfl) rfl (d_ (b_ rfl (g_ (g_ (c_ (a_ (f_ rfl) rfl (Q_ (lk_ p pad pcap (by omega) hsm) rfl C_ (fun v _ h => by exact ⟨h.1, h.2.2.2.1, trivial⟩) rfl fun _ => ?_)))))))
  refine a_ (e_ rfl) rfl (d_ (b_ rfl (g_ (c_ (a_ (f_ rfl) rfl (E_ (bB_ rfl rfl) rfl fun r1 hr1 => ?_))))))
  refine d_ (b_ rfl ?_)
  cases r1
  · skip
    replace hr1 := bD_ hr1
    have hc : cp_ p = 0 := by omega
    refine z_ rfl (J_ (b_ rfl (g_ (c_ (a_ (f_ rfl) rfl (Q_ (jG_ p pad pcap (by have := (eA_ hc).1; omega)) rfl C_ (fun v _ h => by exact ⟨h.1, trivial⟩) rfl fun ⟨⟨vb, ab, es, ec, q⟩, hVk⟩ => ?_))))))
    dsimp only
    obtain ⟨hE, hkn⟩ := hVk; dsimp only at hE hkn
    refine a_ (e_ rfl) rfl (d_ (b_ rfl (g_ (c_ (a_ (f_ rfl) rfl (a_ (f_ rfl) rfl (a_ (aY_ rfl) rfl (a_ (h_ bb_ rfl rfl rfl aF_) rfl (iN_ aF_ rfl rfl D_ (by rfl) ?_)))))))))
    refine d_ (b_ rfl (g_ (g_ (c_ (a_ (f_ rfl) rfl (a_ (P_ 2 bV_ al_ rfl rfl rfl) rfl (Q_ (kD_ p pad pcap fs fad fcap vb ab s q hkn es ec hE hc hfl hfr hfs hsf) rfl (N_ D_ D_) (fun v _ h => by exact ⟨h.1, h.2.1, h.2.2.1, trivial⟩) rfl fun ⟨rc, hrc⟩ => ?_)))))))
    dsimp only
    refine a_ (br_ rfl) rfl (d_ (b_ rfl ?_))
    cases rc
    · skip
      refine x_ rfl (g_ (c_ (a_ (e_ rfl) rfl (d_ (b_ rfl (u_ ?_))))))
      exact Y_ Tryz.results71 ⟨120, .inr ⟨hc, by rw [if_neg (by simp [*])]⟩⟩ rfl C_ (fun _ _ _ => trivial)
    · skip
      refine z_ rfl (J_ (b_ rfl (g_ (c_ (a_ (e_ rfl) rfl (d_ (b_ rfl (u_ ?_))))))))
      exact Y_ Tryz.results71 ⟨0, .inr ⟨hc, by rw [if_pos (by simp [*])]⟩⟩ rfl C_ (fun _ _ _ => trivial)
  · skip
    replace hr1 := bC_ hr1
    refine x_ rfl (g_ (c_ (a_ (f_ rfl) rfl (a_ (e_ rfl) rfl (d_ (b_ rfl (u_ ?_)))))))
    exact Y_ Tryz.results71 ⟨(cp_ p), .inl ⟨by omega, rfl⟩⟩ rfl C_ (fun _ _ _ => trivial)
theorem fs_ (p : List Pc) (pad : Option Addr) (pcap : Nat) (f : Fc) (l : List Stp) (ad : Option Addr) (cap : Nat) (hpl : p.length ≤ 10000000) (hsm : ∀ x ∈ p, x.sm) (hll : l.length ≤ 10000000) (hfr : ∀ s ∈ l, s.frm.length ≤ 1000000) (hsf : ∀ s ∈ l, s.fact.sml) : Tri Tryz.prog 12 #[.slice pad (List.length p) pcap, Fc.val f, .agg #[.slice ad (List.length l) cap]] [] [aQ_ pad (List.flatMap Pc.cells p), aQ_ ad (List.flatMap Stp.cells l), cz_ l, gX_] (fun y : {e : Int // hP_ p f l e} => .int .i64 y.1) (fun _ => []) (fun _ => []) := by
 refine T_ Tryz.func12 rfl rfl Tryz.ntmps12 rfl fun v0 => ?_
 refine g_ (c_ (aN_ rfl rfl fun b1 => ?_))
 refine aN_ rfl rfl fun b2 => ?_
 refine a_ (e_ rfl) rfl (d_ (b_ rfl (g_ (g_ (c_ (a_ (f_ rfl) rfl (Q_ (lk_ p pad pcap (by omega) hsm) rfl C_ (fun v _ h => by exact ⟨h.1, h.2.2.2.1, trivial⟩) rfl fun _ => ?_)))))))
 refine a_ (e_ rfl) rfl (d_ (b_ rfl (g_ (c_ (a_ (f_ rfl) rfl (E_ (bB_ rfl rfl) rfl fun r1 hr1 => ?_))))))
 refine d_ (b_ rfl ?_)
 cases r1
 ·
  replace hr1 := bD_ hr1
  have hc : cp_ p = 0 := by omega
  refine z_ rfl (J_ (b_ rfl (g_ (g_ (c_ (a_ (h_ aa_ rfl rfl rfl am_) rfl (a_ (m_ 0 aT_ rfl rfl rfl) rfl (a_ (ax_ ab_ rfl) rfl (E_ (bv_ rfl rfl) rfl fun r2 hr2 => ?_)))))))))
  refine d_ (b_ rfl ?_)
  cases r2
  ·
   replace hr2 := of_decide_eq_false hr2
   have hl6 : List.length l ≤ 65536 := by omega
   refine z_ rfl (J_ (b_ rfl (g_ (c_ (a_ (f_ rfl) rfl (Q_ (jG_ p pad pcap (by have := (eA_ hc).1; omega)) rfl C_ (fun v _ h => by exact ⟨h.1, trivial⟩) rfl fun ⟨⟨vb, ab, es, ec, q⟩, hVk⟩ => ?_))))))
   dsimp only
   obtain ⟨hE, hkn⟩ := hVk; dsimp only at hE hkn
   refine a_ (e_ rfl) rfl (d_ (b_ rfl (g_ (g_ (c_ (a_ (h_ aa_ rfl rfl rfl am_) rfl (a_ (m_ 2 aT_ rfl rfl rfl) rfl (a_ (ax_ ab_ rfl) rfl (a_ (f_ rfl) rfl ?_)))))))))
   refine d_ (b_ rfl (ad_ ?_))
   refine bs_ (ι := {y : Nat × Value × Hp // y.1 ≤ List.length l ∧ (∀ (j : Nat) (s9 : Stp), l[j]? = some s9 → j < y.1 → cV_ p (fcs (List.take j l)) s9 = true) ∧ bu_ 24 6 y.2.1 (List.length (fcs (List.take y.1 l))) (List.flatMap Fc.cells (fcs (List.take y.1 l))) y.2.2}) (fun y => [(4, zp_ b1 0), (5, zp_ b2 0), (8, zp_ vb 0), (24, .slice ad (List.length l) cap), (25, .int .i64 (List.length l : Int)), (26, .int .i64 (y.1.1 : Int))]) (fun y => ((b1, .cells (Fc.cells f).toArray 24 (0, 0)) :: ((b2, .cells #[.slice ad (List.length l) cap] 27 (0, 0)) :: ((vb, .cells (cE_ (.slice pad p.length pcap) ab y.1.2.1).toArray 83 (0, 0)) :: ((ab, .map es ec) :: y.1.2.2))))) (fun y => [aQ_ pad (List.flatMap Pc.cells p), aQ_ ad (List.flatMap Stp.cells l), cz_ l, gX_]) (fun y => List.length l - y.1.1) ⟨((0 : Nat), (.slice none 0 0), []), by simp, fun j s9 _ h => by omega, (bu_.nil 24 6)⟩ ⟨rfl, rfl, rfl, rfl, rfl, rfl, trivial⟩ (N_ (H_ (H_ (H_ D_))) (N_ (H_ (H_ D_)) (N_ D_ D_))) (fun _ _ h => h) ?_
   rintro ⟨⟨i, sv_F, H_F⟩, hi, hSt, hr_F⟩
   dsimp only at hi hSt hr_F ⊢
   refine g_ (c_ (E_ (au_ rfl rfl) rfl fun r3 hr3 => ?_))
   refine d_ (b_ rfl (g_ ?_))
   cases r3
   ·
    replace hr3 := of_decide_eq_false hr3
    refine z_ rfl (bg_ rfl (b_ rfl (g_ (g_ (c_ (a_ (h_ aa_ rfl rfl rfl am_) rfl (a_ (m_ 1 aT_ rfl rfl rfl) rfl (a_ (ax_ ab_ rfl) rfl (a_ (e_ rfl) rfl ?_)))))))))
    refine d_ (b_ rfl (g_ ?_))
    refine aJ_ (by kernel_rfl) ?_
    refine M_ 10 [0, 1, 2] (by kernel_rfl) (fun _ a b => ⟨a, b⟩) (j_ rfl (f_ rfl) rfl ?_)
    refine bo_ rfl (aB_ rfl rfl) rfl fun r4 hr4 => ?_
    refine j_ rfl (f_ rfl) rfl (L_ ?_)
    cases r4
    ·
     replace hr4 := ne_of_beq_false hr4
     have hlz : List.length l - 1 < List.length l := by omega
     obtain ⟨xl, hxl⟩ : ∃ e0, l[List.length l - 1]? = some e0 := ⟨_, List.getElem?_eq_getElem hlz⟩
     have hmxl : xl ∈ l := List.mem_of_getElem? hxl
     refine M_ 0 [3, 4, 5, 6, 7, 8, 9, 10, 11, 12] (by kernel_rfl) (fun _ a b => ⟨a, b⟩) (p_ rfl rfl rfl (h_ aa_ rfl rfl rfl am_) rfl (p_ rfl rfl rfl (m_ 1 aT_ rfl rfl rfl) rfl (p_ rfl rfl rfl (f_ rfl) rfl (p_ rfl rfl rfl (ac_ rfl rfl rfl (aL_ (by omega) (by omega))) rfl (p_ rfl rfl rfl (ah_ ab_ al_ rfl rfl (fun v _ h => aM_ (n := 9) Stp.cells_len (by decide) (by exact h.2.1) (show l[((List.length l : Int) - 1).toNat]? = some xl by rw [show ((List.length l : Int) - 1).toNat = List.length l - 1 by omega]; exact hxl)) (by omega) (by first | omega | (simp; done))) rfl (p_ rfl rfl rfl (bQ_ K_ rfl rfl rfl k_) rfl (p_ rfl rfl rfl (aK_ (ad := ad) (us := Fc.cells (Stp.fact xl)) R_ k_ rfl (fun v _ h => by exact h.2.1) rfl (lq_ 1 (ak_ Stp.cells_len (show l[((List.length l : Int) - 1).toNat]? = some xl by rw [show ((List.length l : Int) - 1).toNat = List.length l - 1 by omega]; exact hxl)) (Stp.fact_cells xl))) rfl (p_ rfl rfl rfl (P_ 0 R_ k_ rfl rfl rfl) rfl ?_))))))))
     refine at_ rfl rfl rfl (hQ_ (p := (Stp.fact xl)) (q := f) rfl rfl) rfl fun r5 hr5 => ?_
     refine j_ rfl (t_ rfl rfl) rfl (L_ (S_ (by kernel_rfl) (b_ rfl ?_)))
     cases r5
     ·
      replace hr5 := of_decide_eq_false hr5
      refine z_ rfl (J_ (b_ rfl (g_ (c_ (a_ (e_ rfl) rfl (d_ (b_ rfl (u_ ?_))))))))
      exact Y_ hd_ ⟨0, .inr (.inr ⟨hc, hl6, .inl ⟨fun j s9 hj => hSt j s9 hj (by have := (List.getElem?_eq_some_iff.1 hj).1; omega), ⟨xl, hxl, by first | assumption | exact Decidable.not_not.1 (by assumption)⟩, rfl⟩⟩)⟩ rfl C_ (fun _ _ _ => trivial)
     ·
      replace hr5 := of_decide_eq_true hr5
      refine x_ rfl (g_ (c_ (a_ (e_ rfl) rfl (d_ (b_ rfl (u_ ?_))))))
      exact Y_ hd_ ⟨120, .inr (.inr ⟨hc, hl6, .inr ⟨fun z => by obtain ⟨_, t9, h9, h8⟩ := z; rw [hxl] at h9; obtain rfl := Option.some.inj h9; exact absurd h8 (by assumption), rfl⟩⟩)⟩ rfl C_ (fun _ _ _ => trivial)
    ·
     replace hr4 := eq_of_beq hr4
     refine M_ 0 [3, 4, 5, 6, 7, 8, 9, 10, 11, 12] (by kernel_rfl) (fun _ a b => ⟨a, b⟩) (v_ rfl rfl rfl rfl rfl (v_ rfl rfl rfl rfl rfl (v_ rfl rfl rfl rfl rfl (v_ rfl rfl rfl rfl rfl (v_ rfl rfl rfl rfl rfl (v_ rfl rfl rfl rfl rfl (v_ rfl rfl rfl rfl rfl (v_ rfl rfl rfl rfl rfl (v_ rfl rfl rfl rfl rfl ?_)))))))))
     refine j_ rfl (B_ rfl rfl) rfl (L_ (S_ (by kernel_rfl) (b_ rfl (x_ rfl (g_ (c_ (a_ (e_ rfl) rfl (d_ (b_ rfl ?_)))))))))
     refine u_ ?_
     exact Y_ hd_ ⟨120, .inr (.inr ⟨hc, hl6, .inr ⟨fun z => by obtain ⟨_, t9, h9, h8⟩ := z; have := (List.getElem?_eq_some_iff.1 h9).1; omega, rfl⟩⟩)⟩ rfl C_ (fun _ _ _ => trivial)
   ·
    replace hr3 := of_decide_eq_true hr3
    have hlx1 : i < List.length l := by omega
    obtain ⟨x1, hx1⟩ : ∃ e0, l[i]? = some e0 := ⟨_, List.getElem?_eq_getElem hlx1⟩
    have hmx1 : x1 ∈ l := List.mem_of_getElem? hx1
    refine x_ rfl (J_ (b_ rfl (g_ (ad_ (g_ (c_ (a_ (ah_ ab_ al_ rfl rfl (fun v _ h => aM_ (n := 9) Stp.cells_len (by decide) (by exact h.2.1) hx1) (by omega) (by first | omega | (simp; done))) rfl (a_ (aK_ (ad := ad) (us := Stp.cells x1) bV_ al_ rfl (fun v _ h => by exact h.2.1) (Stp.cells_len _) (ak_ Stp.cells_len hx1)) rfl (ae_ aS_ rfl fun b3 => ?_)))))))))
    refine X_ 0 al_ rfl rfl rfl rfl rfl rfl (d_ (b_ rfl (g_ (g_ (c_ (a_ (f_ rfl) rfl (a_ (P_ 0 bV_ al_ rfl rfl rfl) rfl (Q_ (kE_ p pad pcap (fcs (List.take i l)) sv_F H_F hr_F vb ab x1 q hkn es ec hE hc (by rw [dm_, List.length_take]; omega) (hfr x1 hmx1) (oB_ hsf) (hsf x1 hmx1)) rfl (N_ (H_ (H_ (H_ D_))) (N_ (H_ (H_ (H_ D_))) (H_ (H_ aR_)))) (fun v _ h => by exact ⟨h.1, (h.2.2.1 x1 hmx1), trivial⟩) rfl fun ⟨rc, hrc⟩ => ?_))))))))
    dsimp only
    simp only [List.cons_append, List.append_assoc, List.append_nil]
    refine a_ (br_ rfl) rfl (d_ (b_ rfl ?_))
    cases rc
    ·
     refine x_ rfl (bd_ (dG_ D_ (dG_ D_ (dG_ (bO_ D_) (dG_ (bO_ D_) (hh_ cA_))))) (g_ (c_ (a_ (e_ rfl) rfl (d_ (b_ rfl (u_ ?_)))))))
     exact Y_ hd_ ⟨120, lU_ hc hl6 hx1 hrc.symm⟩ rfl C_ (fun _ _ _ => trivial)
    ·
     refine z_ rfl (J_ (b_ rfl (bd_ (dG_ D_ (dG_ D_ (dG_ (bO_ D_) (dG_ (bO_ D_) (hh_ cA_))))) ?_)))
     refine cs_ ((ab, .map es ec) :: ((b3, .cells #[.int .i64 (Stp.rule x1), .int .i64 (Fc.kind (Stp.fact x1)), str (Fc.a (Stp.fact x1)), str (Fc.b (Stp.fact x1)), str (Fc.r (Stp.fact x1)), .int .i64 (Fc.lo (Stp.fact x1)), .int .i64 (Fc.hi (Stp.fact x1)), .int .i64 (Stp.piece x1), .slice (Stp.ad x1) (List.length (Stp.frm x1)) (Stp.cap x1)] 36 (0, 0)) :: ((b1, .cells (Fc.cells f).toArray 24 (0, 0)) :: ((b2, .cells #[.slice ad (List.length l) cap] 27 (0, 0)) :: [])))) (by kernel_rfl) ?_
     refine M_ 6 [0, 1, 2, 3, 5, 6] (by kernel_rfl) (fun _ a b => ⟨Vw.sat.sub (a.perm (N_ (H_ D_) (N_ (H_ D_) (N_ (H_ D_) (H_ D_))))), b⟩) (j_ rfl (f_ rfl) rfl (j_ rfl (f_ rfl) rfl (j_ rfl (aY_ rfl) rfl (j_ rfl (h_ bb_ rfl rfl rfl aF_) rfl (j_ rfl (h_ K_ rfl rfl rfl k_) rfl (j_ rfl (P_ 1 R_ k_ rfl rfl rfl) rfl (L_ ?_)))))))
     refine bS_ 4 7 rfl rfl (by kernel_rfl) ?_ ?_
     ·
      refine a_ (m_ 0 bc_ rfl rfl rfl) rfl (d_ (q_ rfl (A_ (fun _ a b => ⟨Vw.sat.sub (a.perm (N_ (H_ D_) (N_ (H_ D_) (N_ (H_ D_) (H_ D_))))), b⟩) (I_ 7 rfl (by kernel_rfl) (aW_ ag_ k_ ba_ rfl rfl rfl rfl rfl rfl fun b4 => ?_)))))
      refine by_ (List.flatMap Fc.cells [(Stp.fact x1)]) D_ rfl ?_
      refine d_ (q_ rfl (A_ (fun _ a b => ⟨Vw.sat.sub (a.perm (N_ (H_ D_) (N_ (H_ D_) (N_ (H_ D_) (H_ D_))))), b.2⟩) (I_ 8 rfl (by kernel_rfl) (eZ_ (news := List.flatMap Fc.cells [(Stp.fact x1)]) kB_ hr_F rfl rfl (fun q => by cases q) (by simp) (H_ (H_ (H_ (H_ aR_)))) (by rw [em_ Fc.cells 6 Fc.cells_len]; rfl) (fun v _ h => by exact h.1) (fun u hu => cc_ Fc.cells_one hu) (by simp only [maxLen]; (first | omega | (rw [dm_, List.length_take]; omega) | (simp only [dm_, List.length_take]; omega))) (by (first | omega | (rw [dm_, List.length_take]; omega) | (simp only [dm_, List.length_take]; omega))) rfl fun sv1 Hr1 hr1 => ?_))))
      refine bd_ List.perm_append_comm ?_
      have hq1 : bu_ 24 6 sv1 (List.length ((fcs (List.take i l)) ++ [(Stp.fact x1)])) (List.flatMap Fc.cells ((fcs (List.take i l)) ++ [(Stp.fact x1)])) Hr1 := by rw [List.length_append, List.flatMap_append]; exact hr1
      refine d_ (q_ rfl (A_ (fun _ a b => ⟨Vw.sat.sub (a.perm (N_ (H_ D_) (N_ (H_ D_) (N_ (H_ D_) (H_ D_))))), b.2⟩) (M_ 1 [9, 10] (by kernel_rfl) (fun _ a b => ⟨Vw.sat.sub (a.perm (N_ (H_ D_) (N_ (H_ D_) (N_ (H_ D_) (H_ D_))))), b.2⟩) (j_ rfl (aY_ rfl) rfl (j_ rfl (h_ bb_ rfl rfl rfl aF_) rfl (L_ (I_ 11 rfl (by kernel_rfl) ?_)))))))
      obtain ⟨ad9, cp9, hsv9, _⟩ := gm_ hq1
      refine iN_ (ad := ad9) (n := List.length ((fcs (List.take i l)) ++ [(Stp.fact x1)])) (c := cp9) aF_ rfl (by rw [← hsv9]; rfl) D_ (by rw [← hsv9]; exact (ep_ hq1).2) ?_
      rw [← hsv9]
      refine d_ (q_ rfl (A_ (fun _ a b => ⟨Vw.sat.sub (a.perm (N_ (H_ D_) (N_ (H_ D_) (N_ (H_ D_) (H_ D_))))), b.2⟩) (S_ (by kernel_rfl) (b_ rfl (c_ (a_ (ac_ rfl rfl rfl (aL_ (by omega) (by omega))) rfl (a_ (f_ rfl) rfl (d_ (q_ rfl ?_)))))))))
      exact aO_ ⟨(i + 1, sv1, Hr1), hlx1, (fun j s9 hj hji => by rcases Nat.lt_or_ge j i with z | z; exact hSt j s9 hj z; obtain rfl : j = i := (by omega); rw [hx1] at hj; obtain rfl := Option.some.inj hj; exact hrc.symm), (by have z := hq1; rw [← jY_ hx1] at z; exact z)⟩ (by dsimp only; omega) ⟨rfl, rfl, rfl, rfl, rfl, rfl, trivial⟩ (N_ (H_ (H_ (H_ D_))) (N_ (H_ (H_ (H_ D_))) (N_ D_ (N_ D_ aR_)))) (fun _ _ h => h.2)
     ·
      refine aW_ ag_ k_ ba_ rfl rfl rfl rfl rfl rfl fun b5 => ?_
      refine by_ (List.flatMap Fc.cells [(Stp.fact x1)]) D_ rfl ?_
      refine d_ (q_ rfl (A_ (fun _ a b => ⟨Vw.sat.sub (a.perm (N_ (H_ D_) (N_ (H_ D_) (N_ (H_ D_) (H_ D_))))), b.2⟩) (I_ 4 rfl (by kernel_rfl) (a_ (m_ 0 bc_ rfl rfl rfl) rfl (d_ (q_ rfl (A_ (fun _ a b => ⟨Vw.sat.sub (a.perm (N_ (H_ D_) (N_ (H_ D_) (N_ (H_ D_) (H_ D_))))), b.2⟩) (I_ 8 rfl (by kernel_rfl) (eZ_ (news := List.flatMap Fc.cells [(Stp.fact x1)]) kB_ hr_F rfl rfl (fun q => by cases q) (by simp) (H_ (H_ (H_ (H_ aR_)))) (by rw [em_ Fc.cells 6 Fc.cells_len]; rfl) (fun v _ h => by exact h.1) (fun u hu => cc_ Fc.cells_one hu) (by simp only [maxLen]; (first | omega | (rw [dm_, List.length_take]; omega) | (simp only [dm_, List.length_take]; omega))) (by (first | omega | (rw [dm_, List.length_take]; omega) | (simp only [dm_, List.length_take]; omega))) rfl fun sv2 Hr2 hr2 => ?_)))))))))
      refine bd_ List.perm_append_comm ?_
      have hq2 : bu_ 24 6 sv2 (List.length ((fcs (List.take i l)) ++ [(Stp.fact x1)])) (List.flatMap Fc.cells ((fcs (List.take i l)) ++ [(Stp.fact x1)])) Hr2 := by rw [List.length_append, List.flatMap_append]; exact hr2
      refine d_ (q_ rfl (A_ (fun _ a b => ⟨Vw.sat.sub (a.perm (N_ (H_ D_) (N_ (H_ D_) (N_ (H_ D_) (H_ D_))))), b.2⟩) (M_ 1 [9, 10] (by kernel_rfl) (fun _ a b => ⟨Vw.sat.sub (a.perm (N_ (H_ D_) (N_ (H_ D_) (N_ (H_ D_) (H_ D_))))), b.2⟩) (j_ rfl (aY_ rfl) rfl (j_ rfl (h_ bb_ rfl rfl rfl aF_) rfl (L_ (I_ 11 rfl (by kernel_rfl) ?_)))))))
      obtain ⟨ad9, cp9, hsv9, _⟩ := gm_ hq2
      refine iN_ (ad := ad9) (n := List.length ((fcs (List.take i l)) ++ [(Stp.fact x1)])) (c := cp9) aF_ rfl (by rw [← hsv9]; rfl) D_ (by rw [← hsv9]; exact (ep_ hq2).2) ?_
      rw [← hsv9]
      refine d_ (q_ rfl (A_ (fun _ a b => ⟨Vw.sat.sub (a.perm (N_ (H_ D_) (N_ (H_ D_) (N_ (H_ D_) (H_ D_))))), b.2⟩) (S_ (by kernel_rfl) (b_ rfl (c_ (a_ (ac_ rfl rfl rfl (aL_ (by omega) (by omega))) rfl (a_ (f_ rfl) rfl (d_ (q_ rfl ?_)))))))))
      exact aO_ ⟨(i + 1, sv2, Hr2), hlx1, (fun j s9 hj hji => by rcases Nat.lt_or_ge j i with z | z; exact hSt j s9 hj z; obtain rfl : j = i := (by omega); rw [hx1] at hj; obtain rfl := Option.some.inj hj; exact hrc.symm), (by have z := hq2; rw [← jY_ hx1] at z; exact z)⟩ (by dsimp only; omega) ⟨rfl, rfl, rfl, rfl, rfl, rfl, trivial⟩ (N_ (H_ (H_ (H_ D_))) (N_ (H_ (H_ (H_ D_))) (N_ D_ (N_ D_ aR_)))) (fun _ _ h => h.2)
  ·
   replace hr2 := of_decide_eq_true hr2
   refine x_ rfl (g_ (c_ (a_ (e_ rfl) rfl (d_ (b_ rfl (u_ ?_))))))
   exact Y_ hd_ ⟨2, .inr (.inl ⟨by omega, by omega, rfl⟩)⟩ rfl C_ (fun _ _ _ => trivial)
 ·
  replace hr1 := bC_ hr1
  refine x_ rfl (g_ (c_ (a_ (f_ rfl) rfl (a_ (e_ rfl) rfl (d_ (b_ rfl (u_ ?_)))))))
  exact Y_ hd_ ⟨(cp_ p), .inl ⟨by omega, rfl⟩⟩ rfl C_ (fun _ _ _ => trivial)
end Go.Proofs.YtaffcjgphlhppaaGreatDoor
namespace Go.Proofs.YtaffcjgphlhppaaGreatDoor
open Go Go.Sx Go.Proofs
attribute [local irreducible] Code.wp wpList wpAnyH
open Go.Vs
theorem dn_ {s : Stp} (h : ¬ (0 ≤ s.rule ∧ s.rule ≤ 255 ∧ 0 ≤ s.fact.kind ∧ s.fact.kind ≤ 255 ∧ -1 ≤ s.piece ∧ s.piece ≤ 2147483646 ∧ s.frm.length ≤ 255 ∧ (∀ q ∈ s.frm, 0 ≤ q ∧ q ≤ 2147483647) ∧ s.fact.a.length ≤ 65535 ∧ s.fact.b.length ≤ 65535 ∧ s.fact.r.length ≤ 65535)) : false = eh_ s := by
  rw [eq_comm, Bool.eq_false_iff]
  exact fun q => h (ex_.1 q)
theorem lN_ {s : Stp} (h1 : 0 ≤ s.rule) (h2 : s.rule ≤ 255) (h3 : 0 ≤ s.fact.kind) (h4 : s.fact.kind ≤ 255) (h5 : -1 ≤ s.piece) (h6 : s.piece ≤ 2147483646) (h7 : s.frm.length ≤ 255) (h8 : ∀ q ∈ s.frm, 0 ≤ q ∧ q ≤ 2147483647) (h9 : s.fact.a.length ≤ 65535) (h10 : s.fact.b.length ≤ 65535) :
    eh_ s = decide ((s.fact.r.length : Int) ≤ 65535) := by
  rw [Bool.eq_iff_iff, ex_, decide_eq_true_eq]
  constructor
  · intro q; have := q.2.2.2.2.2.2.2.2.2.2; omega
  · intro q; exact ⟨h1, h2, h3, h4, h5, h6, h7, h8, h9, h10, by omega⟩
theorem or_ (s : Stp) (hfr : s.frm.length ≤ 1000000) (hsf : s.fact.sml) : Tri Tryz.prog 36 #[Stp.val s] [] [aQ_ (Stp.ad s) (List.flatMap cU_ (Stp.frm s))] (fun _ : Unit => .bool (eh_ s)) (fun _ => []) (fun _ => []) := by
 refine T_ Tryz.func36 rfl rfl Tryz.ntmps36 rfl fun v0 => ?_
 obtain ⟨hsa, hsb, hsr⟩ := hsf
 refine g_ (c_ (aN_ rfl rfl fun b1 => ?_))
 refine a_ (e_ rfl) rfl (d_ (b_ rfl (g_ (c_ (a_ (h_ K_ rfl rfl rfl k_) rfl (a_ (P_ 0 R_ k_ rfl rfl rfl) rfl (ae_ ba_ rfl fun b2 => ?_)))))))
 refine X_ 0 k_ rfl rfl rfl rfl rfl rfl (d_ (b_ rfl (g_ (g_ (c_ (a_ (h_ K_ rfl rfl rfl r_) rfl (a_ (m_ 1 y_ rfl rfl rfl) rfl (E_ (au_ rfl rfl) rfl fun r1 hr1 => ?_))))))))
 refine a_ (f_ rfl) rfl ?_
 cases r1
 ·
  replace hr1 := of_decide_eq_false hr1
  refine l_ rfl rfl (a_ (h_ K_ rfl rfl rfl r_) rfl (l_ rfl rfl (a_ (m_ 1 y_ rfl rfl rfl) rfl (l_ rfl rfl (E_ (bv_ rfl rfl) rfl fun r2 hr2 => ?_)))))
  refine a_ (t_ rfl rfl) rfl (a_ (f_ rfl) rfl ?_)
  cases r2
  ·
   replace hr2 := of_decide_eq_false hr2
   refine l_ rfl rfl (a_ (h_ o_ rfl rfl rfl r_) rfl (l_ rfl rfl (a_ (m_ 0 y_ rfl rfl rfl) rfl (l_ rfl rfl (E_ (au_ rfl rfl) rfl fun r3 hr3 => ?_)))))
   refine a_ (t_ rfl rfl) rfl (a_ (f_ rfl) rfl ?_)
   cases r3
   ·
    replace hr3 := of_decide_eq_false hr3
    refine l_ rfl rfl (a_ (h_ o_ rfl rfl rfl r_) rfl (l_ rfl rfl (a_ (m_ 0 y_ rfl rfl rfl) rfl (l_ rfl rfl (E_ (bv_ rfl rfl) rfl fun r4 hr4 => ?_)))))
    refine a_ (t_ rfl rfl) rfl (a_ (f_ rfl) rfl ?_)
    cases r4
    ·
     replace hr4 := of_decide_eq_false hr4
     refine l_ rfl rfl (a_ (h_ K_ rfl rfl rfl r_) rfl (l_ rfl rfl (a_ (m_ 1 y_ rfl rfl rfl) rfl (l_ rfl rfl (E_ (au_ rfl rfl) rfl fun r5 hr5 => ?_)))))
     refine a_ (t_ rfl rfl) rfl (a_ (f_ rfl) rfl ?_)
     cases r5
     ·
      replace hr5 := of_decide_eq_false hr5
      refine l_ rfl rfl (a_ (h_ K_ rfl rfl rfl r_) rfl (l_ rfl rfl (a_ (m_ 1 y_ rfl rfl rfl) rfl (l_ rfl rfl (E_ (bv_ rfl rfl) rfl fun r6 hr6 => ?_)))))
      refine a_ (t_ rfl rfl) rfl (a_ (f_ rfl) rfl ?_)
      cases r6
      ·
       replace hr6 := of_decide_eq_false hr6
       refine l_ rfl rfl (a_ (h_ K_ rfl rfl rfl aZ_) rfl (l_ rfl rfl (a_ (m_ 1 bA_ rfl rfl rfl) rfl (l_ rfl rfl (a_ (ax_ ao_ rfl) rfl (l_ rfl rfl (E_ (bv_ rfl rfl) rfl fun r7 hr7 => ?_)))))))
       refine a_ (t_ rfl rfl) rfl (d_ (b_ rfl ?_))
       cases r7
       ·
        replace hr7 := of_decide_eq_false hr7
        refine z_ rfl (J_ (b_ rfl (g_ (g_ (c_ (a_ (h_ K_ rfl rfl rfl aZ_) rfl (a_ (m_ 1 bA_ rfl rfl rfl) rfl (a_ (ax_ ao_ rfl) rfl (a_ (f_ rfl) rfl ?_)))))))))
        refine d_ (b_ rfl (ad_ ?_))
        refine bs_ (ι := {y : Nat // y ≤ List.length (Stp.frm s) ∧ (∀ u ∈ List.take y (Stp.frm s), 0 ≤ u ∧ u ≤ 2147483647)}) (fun y => [(2, .bool false), (3, zp_ b2 0), (43, .slice (Stp.ad s) (List.length (Stp.frm s)) (Stp.cap s)), (44, .int .i64 (List.length (Stp.frm s) : Int)), (45, .int .i64 (y.1 : Int))]) (fun y => ((b2, .cells #[.int .i64 (Fc.kind (Stp.fact s)), str (Fc.a (Stp.fact s)), str (Fc.b (Stp.fact s)), str (Fc.r (Stp.fact s)), .int .i64 (Fc.lo (Stp.fact s)), .int .i64 (Fc.hi (Stp.fact s))] 24 (0, 0)) :: [])) (fun y => [aQ_ (Stp.ad s) (List.flatMap cU_ (Stp.frm s))]) (fun y => List.length (Stp.frm s) - y.1) ⟨(0 : Nat), by simp, by simp⟩ ⟨rfl, rfl, rfl, rfl, rfl, trivial⟩ D_ (fun _ _ h => h) ?_
        rintro ⟨i, hi_i, hA⟩
        dsimp only at hi_i hA ⊢
        refine g_ (c_ (E_ (au_ rfl rfl) rfl fun r8 hr8 => ?_))
        refine d_ (b_ rfl (g_ ?_))
        cases r8
        ·
         replace hr8 := of_decide_eq_false hr8
         refine z_ rfl (bg_ rfl (b_ rfl (g_ (c_ (a_ (h_ o_ rfl rfl rfl w_) rfl (a_ (m_ 0 F_ rfl rfl rfl) rfl (a_ (bH_ W_ rfl) rfl (E_ (bX_ rfl rfl) rfl fun r9 hr9 => ?_))))))))
         refine a_ (f_ rfl) rfl ?_
         cases r9
         ·
          replace hr9 := of_decide_eq_false hr9
          refine n_ rfl rfl rfl rfl (n_ rfl rfl rfl rfl (n_ rfl rfl rfl rfl (n_ rfl rfl rfl rfl (a_ (t_ rfl rfl) rfl (a_ (f_ rfl) rfl (n_ rfl rfl rfl rfl (n_ rfl rfl rfl rfl (n_ rfl rfl rfl rfl (n_ rfl rfl rfl rfl ?_)))))))))
          refine a_ (t_ rfl rfl) rfl (a_ (e_ rfl) rfl (d_ (b_ rfl (u_ ?_))))
          exact Y_ cm_ () (s_ rfl (dn_ fun q => by obtain ⟨q1, q2, q3, q4, q5, q6, q7, _, q8, q9, q10⟩ := q; omega)) C_ (fun _ _ _ => trivial)
         ·
          replace hr9 := of_decide_eq_true hr9
          refine l_ rfl rfl (a_ (h_ o_ rfl rfl rfl w_) rfl (l_ rfl rfl (a_ (m_ 0 F_ rfl rfl rfl) rfl (l_ rfl rfl (a_ (bH_ W_ rfl) rfl (l_ rfl rfl (E_ (bX_ rfl rfl) rfl fun r10 hr10 => ?_)))))))
          refine a_ (B_ rfl rfl) rfl (a_ (f_ rfl) rfl ?_)
          cases r10
          ·
           replace hr10 := of_decide_eq_false hr10
           refine n_ rfl rfl rfl rfl (n_ rfl rfl rfl rfl (n_ rfl rfl rfl rfl (n_ rfl rfl rfl rfl (a_ (t_ rfl rfl) rfl (a_ (e_ rfl) rfl (d_ (b_ rfl (u_ ?_))))))))
           exact Y_ cm_ () (s_ rfl (dn_ fun q => by obtain ⟨q1, q2, q3, q4, q5, q6, q7, _, q8, q9, q10⟩ := q; omega)) C_ (fun _ _ _ => trivial)
          ·
           replace hr10 := of_decide_eq_true hr10
           refine l_ rfl rfl (a_ (h_ o_ rfl rfl rfl w_) rfl (l_ rfl rfl (a_ (m_ 0 F_ rfl rfl rfl) rfl (l_ rfl rfl (a_ (bH_ W_ rfl) rfl (l_ rfl rfl (E_ (bX_ rfl rfl) rfl fun r11 hr11 => ?_)))))))
           refine a_ (B_ rfl rfl) rfl (a_ (e_ rfl) rfl (d_ (b_ rfl (u_ ?_))))
           exact Y_ cm_ () (s_ rfl (hr11.symm.trans (lN_ (s := s) (by omega) (by omega) (by omega) (by omega) (by omega) (by omega) (by omega) (by have z := hA; rw [List.take_of_length_le (by omega)] at z; exact z) (by omega) (by omega)).symm)) C_ (fun _ _ _ => trivial)
        ·
         replace hr8 := of_decide_eq_true hr8
         have hlx1 : i < List.length (Stp.frm s) := by omega
         obtain ⟨x1, hx1⟩ : ∃ e0, (Stp.frm s)[i]? = some e0 := ⟨_, List.getElem?_eq_getElem hlx1⟩
         have hmx1 : x1 ∈ (Stp.frm s) := List.mem_of_getElem? hx1
         refine x_ rfl (J_ (b_ rfl (g_ (ad_ (g_ (c_ (a_ (ah_ ao_ r_ rfl rfl (fun v _ h => aM_ (n := 1) co_ (by decide) (by exact h.1) hx1) (by omega) (by first | omega | (simp; done))) rfl (a_ (be_ (ad := (Stp.ad s)) y_ rfl (fun v _ h => by exact h.1) (ak_ co_ hx1 0 _ rfl)) rfl (a_ (e_ rfl) rfl ?_)))))))))
         refine d_ (b_ rfl (g_ (c_ (a_ (f_ rfl) rfl (E_ (au_ rfl rfl) rfl fun r12 hr12 => ?_)))))
         refine a_ (f_ rfl) rfl ?_
         cases r12
         ·
          replace hr12 := of_decide_eq_false hr12
          refine l_ rfl rfl (a_ (f_ rfl) rfl (l_ rfl rfl (E_ (bv_ rfl rfl) rfl fun r13 hr13 => ?_)))
          refine a_ (t_ rfl rfl) rfl (d_ (b_ rfl ?_))
          cases r13
          ·
           replace hr13 := of_decide_eq_false hr13
           refine z_ rfl (J_ (b_ rfl (c_ (a_ (ac_ rfl rfl rfl (aL_ (by omega) (by omega))) rfl (a_ (f_ rfl) rfl (d_ (q_ rfl ?_)))))))
           exact aO_ ⟨i + 1, hlx1, fun u hu => by rw [List.take_add_one, hx1] at hu; rcases List.mem_append.1 hu with z | z; exact hA u z; simp only [Option.toList_some, List.mem_singleton] at z; subst z; constructor <;> omega⟩ (by dsimp only; omega) ⟨rfl, rfl, rfl, rfl, rfl, trivial⟩ D_ (fun _ _ h => h)
          ·
           replace hr13 := of_decide_eq_true hr13
           refine x_ rfl (g_ (c_ (a_ (e_ rfl) rfl (d_ (b_ rfl (u_ ?_))))))
           exact Y_ cm_ () (s_ rfl (dn_ fun q => by have z := q.2.2.2.2.2.2.2.1 x1 hmx1; omega)) C_ (fun _ _ _ => trivial)
         ·
          replace hr12 := of_decide_eq_true hr12
          refine n_ rfl rfl rfl rfl (n_ rfl rfl rfl rfl (a_ (B_ rfl rfl) rfl (d_ (b_ rfl (x_ rfl (g_ (c_ (a_ (e_ rfl) rfl (d_ ?_)))))))))
          refine b_ rfl (u_ ?_)
          exact Y_ cm_ () (s_ rfl (dn_ fun q => by have z := q.2.2.2.2.2.2.2.1 x1 hmx1; omega)) C_ (fun _ _ _ => trivial)
       ·
        replace hr7 := of_decide_eq_true hr7
        refine x_ rfl (g_ (c_ (a_ (e_ rfl) rfl (d_ (b_ rfl (u_ ?_))))))
        exact Y_ cm_ () (s_ rfl (dn_ fun q => by obtain ⟨q1, q2, q3, q4, q5, q6, q7, _, q8, q9, q10⟩ := q; omega)) C_ (fun _ _ _ => trivial)
      ·
       replace hr6 := of_decide_eq_true hr6
       refine n_ rfl rfl rfl rfl (n_ rfl rfl rfl rfl (n_ rfl rfl rfl rfl (n_ rfl rfl rfl rfl (a_ (B_ rfl rfl) rfl (d_ (b_ rfl (x_ rfl (g_ (c_ ?_)))))))))
       refine a_ (e_ rfl) rfl (d_ (b_ rfl (u_ ?_)))
       exact Y_ cm_ () (s_ rfl (dn_ fun q => by obtain ⟨q1, q2, q3, q4, q5, q6, q7, _, q8, q9, q10⟩ := q; omega)) C_ (fun _ _ _ => trivial)
     ·
      replace hr5 := of_decide_eq_true hr5
      refine n_ rfl rfl rfl rfl (n_ rfl rfl rfl rfl (n_ rfl rfl rfl rfl (a_ (B_ rfl rfl) rfl (a_ (f_ rfl) rfl (n_ rfl rfl rfl rfl (n_ rfl rfl rfl rfl (n_ rfl rfl rfl rfl (n_ rfl rfl rfl rfl (a_ (B_ rfl rfl) rfl ?_)))))))))
      refine d_ (b_ rfl (x_ rfl (g_ (c_ (a_ (e_ rfl) rfl (d_ (b_ rfl (u_ ?_))))))))
      exact Y_ cm_ () (s_ rfl (dn_ fun q => by obtain ⟨q1, q2, q3, q4, q5, q6, q7, _, q8, q9, q10⟩ := q; omega)) C_ (fun _ _ _ => trivial)
    ·
     replace hr4 := of_decide_eq_true hr4
     refine n_ rfl rfl rfl rfl (n_ rfl rfl rfl rfl (n_ rfl rfl rfl rfl (a_ (B_ rfl rfl) rfl (a_ (f_ rfl) rfl (n_ rfl rfl rfl rfl (n_ rfl rfl rfl rfl (n_ rfl rfl rfl rfl (a_ (B_ rfl rfl) rfl (a_ (f_ rfl) rfl ?_)))))))))
     refine n_ rfl rfl rfl rfl (n_ rfl rfl rfl rfl (n_ rfl rfl rfl rfl (n_ rfl rfl rfl rfl (a_ (B_ rfl rfl) rfl (d_ (b_ rfl (x_ rfl (g_ (c_ ?_)))))))))
     refine a_ (e_ rfl) rfl (d_ (b_ rfl (u_ ?_)))
     exact Y_ cm_ () (s_ rfl (dn_ fun q => by obtain ⟨q1, q2, q3, q4, q5, q6, q7, _, q8, q9, q10⟩ := q; omega)) C_ (fun _ _ _ => trivial)
   ·
    replace hr3 := of_decide_eq_true hr3
    refine n_ rfl rfl rfl rfl (n_ rfl rfl rfl rfl (n_ rfl rfl rfl rfl (a_ (B_ rfl rfl) rfl (a_ (f_ rfl) rfl (n_ rfl rfl rfl rfl (n_ rfl rfl rfl rfl (n_ rfl rfl rfl rfl (a_ (B_ rfl rfl) rfl (a_ (f_ rfl) rfl ?_)))))))))
    refine n_ rfl rfl rfl rfl (n_ rfl rfl rfl rfl (n_ rfl rfl rfl rfl (a_ (B_ rfl rfl) rfl (a_ (f_ rfl) rfl (n_ rfl rfl rfl rfl (n_ rfl rfl rfl rfl (n_ rfl rfl rfl rfl (n_ rfl rfl rfl rfl (a_ (B_ rfl rfl) rfl ?_)))))))))
    refine d_ (b_ rfl (x_ rfl (g_ (c_ (a_ (e_ rfl) rfl (d_ (b_ rfl (u_ ?_))))))))
    exact Y_ cm_ () (s_ rfl (dn_ fun q => by obtain ⟨q1, q2, q3, q4, q5, q6, q7, _, q8, q9, q10⟩ := q; omega)) C_ (fun _ _ _ => trivial)
  ·
   replace hr2 := of_decide_eq_true hr2
   refine n_ rfl rfl rfl rfl (n_ rfl rfl rfl rfl (n_ rfl rfl rfl rfl (a_ (B_ rfl rfl) rfl (a_ (f_ rfl) rfl (n_ rfl rfl rfl rfl (n_ rfl rfl rfl rfl (n_ rfl rfl rfl rfl (a_ (B_ rfl rfl) rfl (a_ (f_ rfl) rfl ?_)))))))))
   refine n_ rfl rfl rfl rfl (n_ rfl rfl rfl rfl (n_ rfl rfl rfl rfl (a_ (B_ rfl rfl) rfl (a_ (f_ rfl) rfl (n_ rfl rfl rfl rfl (n_ rfl rfl rfl rfl (n_ rfl rfl rfl rfl (a_ (B_ rfl rfl) rfl (a_ (f_ rfl) rfl ?_)))))))))
   refine n_ rfl rfl rfl rfl (n_ rfl rfl rfl rfl (n_ rfl rfl rfl rfl (n_ rfl rfl rfl rfl (a_ (B_ rfl rfl) rfl (d_ (b_ rfl (x_ rfl (g_ (c_ ?_)))))))))
   refine a_ (e_ rfl) rfl (d_ (b_ rfl (u_ ?_)))
   exact Y_ cm_ () (s_ rfl (dn_ fun q => by obtain ⟨q1, q2, q3, q4, q5, q6, q7, _, q8, q9, q10⟩ := q; omega)) C_ (fun _ _ _ => trivial)
 ·
  replace hr1 := of_decide_eq_true hr1
  refine n_ rfl rfl rfl rfl (n_ rfl rfl rfl rfl (n_ rfl rfl rfl rfl (a_ (B_ rfl rfl) rfl (a_ (f_ rfl) rfl (n_ rfl rfl rfl rfl (n_ rfl rfl rfl rfl (n_ rfl rfl rfl rfl (a_ (B_ rfl rfl) rfl (a_ (f_ rfl) rfl ?_)))))))))
  refine n_ rfl rfl rfl rfl (n_ rfl rfl rfl rfl (n_ rfl rfl rfl rfl (a_ (B_ rfl rfl) rfl (a_ (f_ rfl) rfl (n_ rfl rfl rfl rfl (n_ rfl rfl rfl rfl (n_ rfl rfl rfl rfl (a_ (B_ rfl rfl) rfl (a_ (f_ rfl) rfl ?_)))))))))
  refine n_ rfl rfl rfl rfl (n_ rfl rfl rfl rfl (n_ rfl rfl rfl rfl (a_ (B_ rfl rfl) rfl (a_ (f_ rfl) rfl (n_ rfl rfl rfl rfl (n_ rfl rfl rfl rfl (n_ rfl rfl rfl rfl (n_ rfl rfl rfl rfl (a_ (B_ rfl rfl) rfl ?_)))))))))
  refine d_ (b_ rfl (x_ rfl (g_ (c_ (a_ (e_ rfl) rfl (d_ (b_ rfl (u_ ?_))))))))
  exact Y_ cm_ () (s_ rfl (dn_ fun q => by obtain ⟨q1, q2, q3, q4, q5, q6, q7, _, q8, q9, q10⟩ := q; omega)) C_ (fun _ _ _ => trivial)
theorem elt_u8 : Elt Tryz.prog 39 5 1 1 := ka_ hT_ (z := .int .u8 0) (by kernel_rfl) rfl (by decide)
theorem elt_by : EltB Tryz.prog 39 5 9 := eltB hT_ dh_ (by kernel_rfl)
theorem dk_ (L : Str) (n : Int) (k : Nat) (sv : Value) (Hr : Hp) (hr : bu_ 5 1 sv (List.length L) (List.flatMap u8C L) Hr) (hk : k ≤ 8) (hL : L.length ≤ 140737488355000) : Tri Tryz.prog 37 #[sv, .int .i64 n, .int .i64 (k : Int)] Hr [] (fun y : {y : Value × Hp // bu_ 5 1 y.1 (List.length (L ++ aA_ n k)) (List.flatMap u8C (L ++ aA_ n k)) y.2} => y.1.1) (fun y => y.1.2) (fun _ => []) := by
  refine T_ Tryz.func37 rfl rfl Tryz.ntmps37 rfl fun v0 => ?_
  refine g_ (c_ (a_ (e_ rfl) rfl (d_ (b_ rfl (g_ (g_ (c_ (a_ (f_ rfl) rfl (a_ (ac_ rfl rfl rfl (aL_ (by omega) (by omega))) rfl ?_)))))))))
  refine a_ (e_ rfl) rfl (d_ (b_ rfl (ad_ ?_)))
  refine bs_ (ι := {y : Nat × Str × Value × Hp // y.1 ≤ k ∧ L ++ aA_ n k = y.2.1 ++ aA_ n y.1 ∧ bu_ 5 1 y.2.2.1 (List.length y.2.1) (List.flatMap u8C y.2.1) y.2.2.2}) (fun y => [(0, y.1.2.2.1), (1, .int .i64 n), (7, .int .i64 ((y.1.1 : Int) - 1))]) (fun y => (y.1.2.2.2)) (fun y => []) (fun y => y.1.1) ⟨(k, L, sv, Hr), Nat.le_refl _, rfl, hr⟩ ⟨rfl, rfl, rfl, trivial⟩ cJ_ (fun _ _ _ => trivial) ?_
  rintro ⟨⟨j, l, sv_B, H_B⟩, hj, hl, hr_B⟩
  dsimp only at hj hl hr_B ⊢
  refine g_ (g_ (c_ (a_ (f_ rfl) rfl (E_ (bY_ rfl rfl) rfl fun r1 hr1 => ?_))))
  refine d_ (b_ rfl ?_)
  cases r1
  · skip
    replace hr1 := of_decide_eq_false hr1
    obtain rfl : j = 0 := by omega
    simp only [aA_, List.append_nil] at hl
    refine z_ rfl (bg_ rfl (b_ rfl (g_ (c_ (a_ (f_ rfl) rfl (a_ (e_ rfl) rfl (d_ (b_ rfl (u_ ?_)))))))))
    exact Y_ Tryz.results37 ⟨(sv_B, H_B), by rw [hl]; exact hr_B⟩ rfl cJ_ (fun _ _ _ => trivial)
  · skip
    replace hr1 := of_decide_eq_true hr1
    obtain ⟨i, rfl⟩ : ∃ i, j = i + 1 := ⟨j - 1, by omega⟩
    refine x_ rfl (J_ (b_ rfl (g_ (ad_ (c_ (a_ (f_ rfl) rfl (a_ (f_ rfl) rfl (a_ (eD_ cN_ dF_ rfl (lm_ n)) rfl (a_ (f_ rfl) rfl ?_)))))))))
    refine a_ (bW_ (ac_ rfl rfl rfl (aL_ (by omega) (by omega))) (show _ = Value.int .i64 (8 * (i : Int)) by congr 1; omega)) rfl (a_ (lX_ (m := Go.Vs.bits n) (i := i) rfl rfl (by omega)) rfl (a_ (eD_ dF_ jm_ rfl (nC_ _)) rfl (aW_ bt_ eV_ Tryz.zeroValue5 rfl rfl rfl rfl rfl rfl fun b1 => ?_)))
    refine bI_ (news := List.flatMap u8C [(UInt8.ofNat (Go.Vs.bits n / 256 ^ i))]) elt_u8 hr_B rfl rfl aR_ rfl (cn_ 0 rfl) (fun u hu => cc_ nG_ hu) (by simp only [maxLen]; (have z := congrArg List.length hl; simp only [List.length_append, bJ_, List.length_cons, List.length_nil] at z ⊢; omega)) (by (have z := congrArg List.length hl; simp only [List.length_append, bJ_, List.length_cons, List.length_nil] at z ⊢; omega)) rfl fun sv1 Hr1 hr1 => ?_
    refine bd_ List.perm_append_comm ?_
    have hq1 : bu_ 5 1 sv1 (List.length (l ++ [(UInt8.ofNat (Go.Vs.bits n / 256 ^ i))])) (List.flatMap u8C (l ++ [(UInt8.ofNat (Go.Vs.bits n / 256 ^ i))])) Hr1 := by rw [List.length_append, List.flatMap_append]; exact hr1
    refine a_ (e_ rfl) rfl (d_ (b_ rfl (c_ (a_ (f_ rfl) rfl (a_ (ac_ rfl rfl rfl (aL_ (by omega) (by omega))) rfl (a_ (e_ rfl) rfl (d_ (q_ rfl ?_))))))))
    exact aO_ ⟨(i, (l ++ [(UInt8.ofNat (Go.Vs.bits n / 256 ^ i))]), sv1, Hr1), (by omega), (by rw [hl]; simp [aA_]), hq1⟩ (by dsimp only; omega) ⟨rfl, rfl, (congrArg some (congrArg (Value.int .i64) (by dsimp only; omega))), trivial⟩ aR_ (fun _ _ _ => trivial)
end Go.Proofs.YtaffcjgphlhppaaGreatDoor
