/-
  Part of the proof of the law CheckerGrows over this seat: the small logic, the data, the contracts of functions (no condition).
-/
import Derived.Test.YtaffcjgphlhppaaGreatDoorQCheckerGrows9
import Derived.Test.YtaffcjgphlhppaaGreatDoorQCheckerGrows7
set_option linter.unusedVariables false
set_option linter.unusedSimpArgs false
set_option linter.unusedSectionVars false
namespace Go.Proofs.YtaffcjgphlhppaaGreatDoor
open Go Go.Sx Go.Proofs
attribute [local irreducible] Code.wp wpList wpAnyH
open Go.Vs
theorem nP_ {P : Program} {N : Nf} {fr : Fr} {H : Hp} {Γ : List Fct} {ty t e : TypeId} {len sz : Nat} {parts : List (Nat × Operand)} {vs : List (Nat × Value)} {z cs : List Value} (hz : ∀ w, (zeroValue t).run P w = .ok (.agg z.toArray) w) (hu : ∀ w, (underlying t).run P w = .ok (.array len e) w) (hs : ∀ w, (sizeOf e).run P w = .ok sz w) (hx : Fr.evp fr parts = some vs)
    (hf : hH_ (fun i => some (i * sz, sz)) z vs = some cs) : Yld P N fr H Γ (.build t parts.toArray) ty (.agg cs.toArray) :=
  hS_ (fun a h1 w => by
    have := h1.evp hx
    rw [List.map_toArray, this]
    have hf' := gg_ _ _ _ _ hf
    simp only [Instr.build, Sem.run_bind, hz, Result.andThen_ok, hu, hs, Value.cells, hf', Sem.run_pure])
def addI {α : Type} [DecidableEq α] (y : α) (l : List α) : List α := if y ∈ l then l else l ++ [y]
theorem nJ_ {α : Type} [DecidableEq α] {y z : α} {l : List α} : z ∈ addI y l ↔ z ∈ l ∨ z = y := by
  unfold addI
  by_cases h : y ∈ l
  · rw [if_pos h]; exact ⟨.inl, fun q => q.elim id fun e => e ▸ h⟩
  · rw [if_neg h, List.mem_append, List.mem_singleton]
theorem kz_ {p : List Pc} {s : Str} : cR_ p s = true ↔ s = [42] ∨ s = [33] ∨ s ∈ cw_ p := by
  rw [hI_]
  simp only [cR_, Bool.or_eq_true, decide_eq_true_eq, List.any_eq_true, Bool.and_eq_true]
  refine or_congr Iff.rfl (or_congr Iff.rfl ?_)
  simp only [co_, gx_, List.mem_flatMap, List.mem_filter]
  constructor
  · rintro ⟨x, hx, hn, h⟩
    refine ⟨x, hx, ?_, by simpa using hn⟩
    rcases h with h | h | h <;> simp [← h]
  · rintro ⟨x, hx, hm, hn⟩
    simp only [List.mem_cons, List.not_mem_nil, or_false] at hm
    exact ⟨x, hx, by simpa using hn, by rcases hm with rfl | rfl | rfl <;> simp⟩
structure VrfH where
  vb : Nat
  ab : Nat
  es : Array MapEntry
  ec : Nat
  q : List Str
structure VrfOk (p : List Pc) (y : VrfH) : Prop where
  e : SetE str y.es y.q
  k : ∀ s, cR_ p s = true ↔ s ∈ y.q
theorem cU_ : gy_ Tryz.prog 80 [(0, 1), (1, 1), (2, 1)] [.int .i64 0, .int .i64 0, .nilFunc] := ⟨_, Tryz.zeroValue80, dS_, fun w => by simp [r_, Tryz.sizeOf78]⟩
theorem strt83 : gy_ Tryz.prog 83 [(0, 1), (1, 1), (2, 1), (3, 51)] [.slice none 0 0, .map none, .slice none 0 0, .int .i64 0, .int .i64 0, .nilFunc, .int .i64 0, .int .i64 0, .nilFunc, .int .i64 0, .int .i64 0, .nilFunc, .int .i64 0, .int .i64 0, .nilFunc, .int .i64 0, .int .i64 0, .nilFunc, .int .i64 0, .int .i64 0, .nilFunc, .int .i64 0, .int .i64 0, .nilFunc, .int .i64 0, .int .i64 0, .nilFunc, .int .i64 0, .int .i64 0, .nilFunc, .int .i64 0, .int .i64 0, .nilFunc, .int .i64 0, .int .i64 0, .nilFunc, .int .i64 0, .int .i64 0, .nilFunc, .int .i64 0, .int .i64 0, .nilFunc, .int .i64 0, .int .i64 0, .nilFunc, .int .i64 0, .int .i64 0, .nilFunc, .int .i64 0, .int .i64 0, .nilFunc, .int .i64 0, .int .i64 0, .nilFunc] := ⟨_, Tryz.zeroValue83, ba_, fun w => by simp [pd_, aF_, pb_, Tryz.sizeOf81]⟩
theorem mX_ : Fn0 Tryz.prog 72 #[] (.agg gK_.toArray) := by
  refine T_ Tryz.func72 rfl rfl Tryz.ntmps72 rfl fun v0 => ?_
  refine g_ (c_ (ad_ Tryz.zeroValue81 rfl fun b1 => ?_))
  refine d_ (b_ rfl (g_ (c_ (a_ (ax_ cU_ rfl rfl) rfl (a_ (ax_ cU_ rfl rfl) rfl (a_ (ax_ cU_ rfl rfl) rfl (a_ (ax_ cU_ rfl rfl) rfl (a_ (ax_ cU_ rfl rfl) rfl (a_ (ax_ cU_ rfl rfl) rfl ?_)))))))))
  refine a_ (ax_ cU_ rfl rfl) rfl (a_ (ax_ cU_ rfl rfl) rfl (a_ (ax_ cU_ rfl rfl) rfl (a_ (ax_ cU_ rfl rfl) rfl (a_ (ax_ cU_ rfl rfl) rfl (a_ (ax_ cU_ rfl rfl) rfl (a_ (ax_ cU_ rfl rfl) rfl (a_ (ax_ cU_ rfl rfl) rfl (a_ (ax_ cU_ rfl rfl) rfl (a_ (ax_ cU_ rfl rfl) rfl ?_)))))))))
  refine a_ (bW_ (nP_ (sz := 3) (cs := gK_) (z := [.int .i64 0, .int .i64 0, .nilFunc, .int .i64 0, .int .i64 0, .nilFunc, .int .i64 0, .int .i64 0, .nilFunc, .int .i64 0, .int .i64 0, .nilFunc, .int .i64 0, .int .i64 0, .nilFunc, .int .i64 0, .int .i64 0, .nilFunc, .int .i64 0, .int .i64 0, .nilFunc, .int .i64 0, .int .i64 0, .nilFunc, .int .i64 0, .int .i64 0, .nilFunc, .int .i64 0, .int .i64 0, .nilFunc, .int .i64 0, .int .i64 0, .nilFunc, .int .i64 0, .int .i64 0, .nilFunc, .int .i64 0, .int .i64 0, .nilFunc, .int .i64 0, .int .i64 0, .nilFunc, .int .i64 0, .int .i64 0, .nilFunc, .int .i64 0, .int .i64 0, .nilFunc, .int .i64 0, .int .i64 0, .nilFunc]) Tryz.zeroValue81 Tryz.runUnderlying81 Tryz.sizeOf80 rfl (by kernel_rfl)) (show _ = Value.agg #[.int .i64 0, .int .i64 0, .nilFunc, .int .i64 0, .int .i64 0, .func (.func 128) #[] #[], .int .i64 0, .int .i64 0, .func (.func 130) #[] #[], .int .i64 1, .int .i64 1, .func (.func 131) #[] #[], .int .i64 2, .int .i64 2, .func (.func 132) #[] #[], .int .i64 1, .int .i64 3, .func (.func 133) #[] #[], .int .i64 1, .int .i64 5, .func (.func 135) #[] #[], .int .i64 2, .int .i64 6, .func (.func 136) #[] #[], .int .i64 2, .int .i64 4, .func (.func 137) #[] #[], .int .i64 2, .int .i64 0, .func (.func 138) #[] #[], .int .i64 0, .int .i64 7, .func (.func 139) #[] #[], .int .i64 1, .int .i64 8, .func (.func 140) #[] #[], .int .i64 2, .int .i64 0, .func (.func 141) #[] #[], .int .i64 2, .int .i64 0, .func (.func 142) #[] #[], .int .i64 1, .int .i64 9, .func (.func 143) #[] #[], .int .i64 1, .int .i64 0, .func (.func 144) #[] #[], .int .i64 1, .int .i64 0, .func (.func 145) #[] #[]] from rfl)) rfl ?_
  refine X_ 0 Tryz.sizeOf81 rfl rfl rfl rfl rfl rfl (d_ (b_ rfl (u_ ?_)))
  exact fB_ () (fun aa v h1 h2 => ck_ (us := gK_) 0 Tryz.results72 Tryz.isAgg81 Tryz.sizeOf81 rfl rfl rfl aa v h1 h2) B_ (fun _ _ _ => trivial)
theorem jK_ (p : List Pc) (pad : Option Addr) (pcap : Nat) (hp : p.length ≤ 10000000) : Tri Tryz.prog 31 #[.slice pad (List.length p) pcap] [] [aR_ pad (List.flatMap Pc.cells p)] (fun y : {y : VrfH // VrfOk p y} => zp_ y.1.vb 0) (fun y => [(y.1.vb, .cells (cC_ (.slice pad p.length pcap) y.1.ab (.slice none 0 0)).toArray 83 (0, 0)), (y.1.ab, .map y.1.es y.1.ec)]) (fun _ => []) := by
  refine T_ Tryz.func31 rfl rfl Tryz.ntmps31 rfl fun v0 => ?_
  have hal := kO_ p
  refine g_ (c_ (a_ (e_ rfl) rfl (d_ (b_ rfl (g_ (c_ (a_ (f_ rfl) rfl (if_ rfl fun b1 => ?_))))))))
  refine hm_ (k := [42]) 0 in_ (.inl rfl) dT_ rfl rfl rfl rfl SetE.nil fun ej1 cj1 hj1 => ?_
  refine hm_ (k := [33]) 0 in_ (.inl rfl) dT_ rfl rfl rfl rfl hj1 fun ej2 cj2 hj2 => ?_
  refine a_ (f_ rfl) rfl (P_ (mX_) rfl B_ (fun _ _ _ => by exact trivial) rfl fun _ => ?_)
  refine a_ (bW_ (ax_ (cs := (cC_ (.slice pad p.length pcap) b1 (.slice none 0 0))) strt83 rfl (by kernel_rfl)) (show _ = Value.agg (cC_ (.slice pad p.length pcap) b1 (.slice none 0 0)).toArray from rfl)) rfl (aL_ rfl rfl fun b2 => ?_)
  refine a_ (e_ rfl) rfl (d_ (b_ rfl (g_ (g_ (c_ (a_ (f_ rfl) rfl (P_ (oW_ p pad pcap (by omega)) rfl B_ (fun v _ h => by exact ⟨h.1, trivial⟩) rfl fun ⟨⟨aad, acap⟩, hac, ham⟩ => ?_)))))))
  dsimp only
  refine a_ (aB_ aD_ rfl) rfl (a_ (f_ rfl) rfl (d_ (b_ rfl (ae_ ?_))))
  have hq0 : ∀ y, y ∈ (if [33] ∈ (if [42] ∈ ([] : List Str) then ([] : List Str) else ([] : List Str) ++ [[42]]) then (if [42] ∈ ([] : List Str) then ([] : List Str) else ([] : List Str) ++ [[42]]) else (if [42] ∈ ([] : List Str) then ([] : List Str) else ([] : List Str) ++ [[42]]) ++ [[33]]) ↔ y = [42] ∨ y = [33] := by intro y; simp
  refine bz_ (ι := {y : Nat × List Str × Array MapEntry × Nat // y.1 ≤ List.length (cw_ p) ∧ SetE str y.2.2.1 y.2.1 ∧ (∀ ux, ux ∈ y.2.1 ↔ ux = [42] ∨ ux = [33] ∨ ux ∈ List.take y.1 (cw_ p))}) (fun y => [(3, zp_ b2 0), (13, .slice aad (List.length (cw_ p)) acap), (14, .int .i64 (List.length (cw_ p) : Int)), (15, .int .i64 (y.1.1 : Int))]) (fun y => ((b2, .cells (cC_ (.slice pad p.length pcap) b1 (.slice none 0 0)).toArray 83 (0, 0)) :: ((b1, .map y.1.2.2.1 y.1.2.2.2) :: []))) (fun y => [aR_ aad (List.flatMap cX_ (cw_ p)), aR_ pad (List.flatMap Pc.cells p)]) (fun y => List.length (cw_ p) - y.1.1) ⟨((0 : Nat), (if [33] ∈ (if [42] ∈ ([] : List Str) then ([] : List Str) else ([] : List Str) ++ [[42]]) then (if [42] ∈ ([] : List Str) then ([] : List Str) else ([] : List Str) ++ [[42]]) else (if [42] ∈ ([] : List Str) then ([] : List Str) else ([] : List Str) ++ [[42]]) ++ [[33]]), ej2, cj2), by simp, hj2, (fun y => by rw [hq0 y]; simp)⟩ ⟨rfl, rfl, rfl, rfl, trivial⟩ (N_ D_ D_) (fun _ _ h => h) ?_
  rintro ⟨⟨i, q, es, ec⟩, hi, hE, hq⟩
  dsimp only at hi hE hq ⊢
  refine g_ (c_ (E_ (au_ rfl rfl) rfl fun r1 hr1 => ?_))
  refine d_ (b_ rfl (g_ ?_))
  cases r1
  · skip
    replace hr1 := of_decide_eq_false hr1
    refine y_ rfl (bi_ rfl (b_ rfl (g_ (c_ (a_ (f_ rfl) rfl (a_ (e_ rfl) rfl (d_ (b_ rfl (u_ ?_)))))))))
    have e9 : List.take i (cw_ p) = cw_ p := List.take_of_length_le (by omega)
    exact Y_ Tryz.results31 ⟨⟨b2, b1, es, ec, q⟩, ⟨hE, fun y => by rw [kz_, hq y, e9]⟩⟩ rfl (N_ D_ D_) (fun _ _ _ => trivial)
  · skip
    replace hr1 := of_decide_eq_true hr1
    have hlx1 : i < List.length (cw_ p) := by omega
    obtain ⟨x1, hx1⟩ : ∃ e0, (cw_ p)[i]? = some e0 := ⟨_, List.getElem?_eq_getElem hlx1⟩
    have hmx1 : x1 ∈ (cw_ p) := List.mem_of_getElem? hx1
    refine w_ rfl (L_ (b_ rfl (g_ (ae_ (g_ (c_ (a_ (ah_ aD_ x_ rfl rfl (fun v _ h => aN_ (n := 1) bZ_ (by decide) (by exact h.1) hx1) (by omega) (by first | omega | (simp; done))) rfl (a_ (bj_ (ad := aad) F_ rfl (fun v _ h => by exact h.1) (ak_ bZ_ hx1 0 _ rfl)) rfl (a_ (e_ rfl) rfl ?_)))))))))
    refine d_ (b_ rfl (c_ (a_ (f_ rfl) rfl (a_ (aY_ rfl) rfl (a_ (h_ ba_ rfl rfl rfl pb_) rfl (a_ (m_ 0 Tryz.isAgg77 rfl rfl rfl) rfl (a_ (f_ rfl) rfl (hm_ (k := x1) 1 in_ (.inr rfl) dT_ rfl rfl rfl rfl hE fun ej3 cj3 hj3 => ?_))))))))
    refine d_ (b_ rfl (c_ (a_ (ac_ rfl rfl rfl (aK_ (by omega) (by omega))) rfl (a_ (f_ rfl) rfl (d_ (q_ rfl ?_))))))
    exact aO_ ⟨(i + 1, addI x1 q, ej3, cj3), hlx1, hj3, (fun y => by rw [nJ_, hq y, List.take_add_one, hx1]; simp [or_assoc])⟩ (by dsimp only; omega) ⟨rfl, rfl, rfl, rfl, trivial⟩ (N_ D_ D_) (fun _ _ h => h)
end Go.Proofs.YtaffcjgphlhppaaGreatDoor
namespace Go.Proofs.YtaffcjgphlhppaaGreatDoor
open Go Go.Sx Go.Proofs
attribute [local irreducible] Code.wp wpList wpAnyH
open Go.Vs
def jl_ (fs : List Fc) (frm : List Int) (m : Int) : Prop := (frm.length : Int) = m ∧ fb_ fs frm = true
theorem eI_ {fs : List Fc} {frm : List Int} {q : Int} (h : fb_ fs frm = true) (hq : q ∈ frm) : 0 ≤ q ∧ q < (fs.length : Int) ∧ wf2 (fs.getD q.toNat zfc) = true := by
  have := List.all_eq_true.1 h q hq
  simpa [and_assoc] using this
theorem eR_ {α : Type} {l : List α} {i : Nat} {x d : α} (h : l[i]? = some x) : l.getD i d = x := by simp [List.getD, h]
theorem jC_ {fs : List Fc} {frm : List Int} {i : Nat} {q : Int} {x : Fc} (h : fb_ fs (List.take i frm) = true) (hq : frm[i]? = some q) (h0 : 0 ≤ q) (h1 : q < (fs.length : Int)) (hx : fs[q.toNat]? = some x) (hw : wf2 x = true) : fb_ fs (List.take (i + 1) frm) = true := by
  unfold fb_ at *
  rw [List.take_add_one, hq, Option.toList_some, List.all_append, h]
  have e : fs.getD q.toNat zfc = x := eR_ hx
  simp only [List.all_cons, List.all_nil, Bool.and_true, Bool.true_and, e, hw]
  rw [decide_eq_true h0, decide_eq_true h1]; rfl
theorem jB_ {fs : List Fc} {frm : List Int} {i : Nat} {q : Int} {x : Fc} (hq : frm[i]? = some q) (hx : fs[q.toNat]? = some x) : bO_ fs (List.take (i + 1) frm) = bO_ fs (List.take i frm) ++ [x] := by
  unfold bO_
  rw [List.take_add_one, hq, Option.toList_some, List.map_append]
  have e : fs.getD q.toNat zfc = x := eR_ hx
  show _ ++ [fs.getD q.toNat zfc] = _
  rw [e]
def dN_ (p : List Pc) (q k : Int) : Prop := 0 ≤ q ∧ q < (p.length : Int) ∧ (p.getD q.toNat zpc).kind = k
theorem ks_ (p : List Pc) (pad : Option Addr) (pcap : Nat) (fs : List Fc) (fad : Option Addr) (fcap : Nat) (vb ab : Nat) (s : Stp) (m : Int) (hfl : fs.length ≤ 10000000) (hfr : s.frm.length ≤ 1000000) (hfs : ∀ x ∈ fs, x.sml) : TriX Tryz.prog 76 #[zp_ vb 0, Stp.val s, .int .i64 m] [] [bV_ vb (.cells (cC_ (.slice pad p.length pcap) ab (.slice fad fs.length fcap)).toArray 83 (0, 0)), aR_ fad (List.flatMap Fc.cells fs), aR_ (Stp.ad s) (List.flatMap cV_ (Stp.frm s))] (fun y : {y : Option Addr × Nat // jl_ fs s.frm m} => .slice y.1.1 (bO_ fs s.frm).length y.1.2) (fun _ => []) (fun y => [aR_ y.1.1 (List.flatMap Fc.cells (bO_ fs s.frm))]) (¬ jl_ fs s.frm m) := by
 refine bd_ Tryz.func76 rfl rfl Tryz.ntmps76 rfl fun v0 => ?_
 refine g_ (c_ (aL_ rfl rfl fun b1 => ?_))
 refine a_ (e_ rfl) rfl (d_ (b_ rfl (g_ (c_ (a_ (h_ Q_ rfl rfl rfl bu_) rfl (a_ (m_ 0 cb_ rfl rfl rfl) rfl (a_ (aB_ az_ rfl) rfl (a_ (f_ rfl) rfl (E_ (aC_ rfl rfl) rfl fun r1 hr1 => ?_)))))))))
 refine al_ (cL_ r1) rfl B_ (fun _ _ _ => by exact trivial) rfl (fun hb => ce_ ((fun hq => by rw [hb] at hr1; simp [hq.1] at hr1))) fun ⟨_, hn1⟩ => ?_
 try dsimp only
 have hlm : (List.length (Stp.frm s) : Int) = m := eq_of_beq (hr1.trans hn1)
 refine d_ (b_ rfl (g_ (g_ (c_ (a_ (h_ Q_ rfl rfl rfl bu_) rfl (a_ (m_ 0 cb_ rfl rfl rfl) rfl (a_ (aB_ az_ rfl) rfl (a_ (f_ rfl) rfl (d_ ?_)))))))))
 refine b_ rfl (ae_ ?_)
 refine bz_ (ι := {y : Nat × Value × Hp // y.1 ≤ List.length (Stp.frm s) ∧ fb_ fs (List.take y.1 (Stp.frm s)) = true ∧ br_ 24 6 y.2.1 (List.length (bO_ fs (List.take y.1 (Stp.frm s)))) (List.flatMap Fc.cells (bO_ fs (List.take y.1 (Stp.frm s)))) y.2.2}) (fun y => [(0, zp_ vb 0), (6, y.1.2.1), (16, .slice (Stp.ad s) (List.length (Stp.frm s)) (Stp.cap s)), (17, .int .i64 (List.length (Stp.frm s) : Int)), (18, .int .i64 (y.1.1 : Int))]) (fun y => (y.1.2.2)) (fun y => [bV_ vb (.cells (cC_ (.slice pad p.length pcap) ab (.slice fad fs.length fcap)).toArray 83 (0, 0)), aR_ fad (List.flatMap Fc.cells fs), aR_ (Stp.ad s) (List.flatMap cV_ (Stp.frm s))]) (fun y => List.length (Stp.frm s) - y.1.1) ⟨((0 : Nat), (.slice none 0 0), []), by simp, rfl, (br_.nil _ _)⟩ ⟨rfl, rfl, rfl, rfl, rfl, trivial⟩ B_ (fun _ _ h => h) ?_
 rintro ⟨⟨i, sv_Rfc, H_Rfc⟩, hi_i, hA, hr_Rfc⟩
 dsimp only at hi_i hA hr_Rfc ⊢
 refine g_ (c_ (E_ (au_ rfl rfl) rfl fun r2 hr2 => ?_))
 refine d_ (b_ rfl (g_ ?_))
 cases r2
 ·
  replace hr2 := of_decide_eq_false hr2
  refine y_ rfl (bi_ rfl (b_ rfl (g_ (c_ (a_ (f_ rfl) rfl (a_ (e_ rfl) rfl (d_ (b_ rfl (u_ ?_)))))))))
  refine bN_ ?_
  have e9 : List.take i (Stp.frm s) = Stp.frm s := List.take_of_length_le (by omega)
  rw [e9] at hA
  have hr9 : br_ 24 6 sv_Rfc (List.length (bO_ fs (Stp.frm s))) (List.flatMap Fc.cells (bO_ fs (Stp.frm s))) H_Rfc := by have q := hr_Rfc; rwa [e9] at q
  refine dh_ hr9 cI_ fun ad2 cp2 had2 hcad2 hmad2 hzad2 => ?_
  exact Y_ Tryz.results76 ⟨(ad2, cp2), ⟨hlm, hA⟩⟩ (gd_ rfl had2) B_ (fun v _ h => ⟨h.1, trivial⟩)
 ·
  replace hr2 := of_decide_eq_true hr2
  have hlqa : i < List.length (Stp.frm s) := by omega
  obtain ⟨qa, hqa⟩ : ∃ e0, (Stp.frm s)[i]? = some e0 := ⟨_, List.getElem?_eq_getElem hlqa⟩
  have hmqa : qa ∈ (Stp.frm s) := List.mem_of_getElem? hqa
  refine w_ rfl (L_ (b_ rfl (g_ (ae_ (g_ (c_ (a_ (ah_ az_ r_ rfl rfl (fun v _ h => aN_ (n := 1) cS_ (by decide) (by exact h.2.2.1) hqa) (by omega) (by first | omega | (simp; done))) rfl (a_ (bj_ (ad := (Stp.ad s)) C_ rfl (fun v _ h => by exact h.2.2.1) (ak_ cS_ hqa 0 _ rfl)) rfl (a_ (e_ rfl) rfl ?_)))))))))
  refine d_ (b_ rfl (g_ (c_ (a_ (f_ rfl) rfl (E_ (ch_ rfl rfl) rfl fun r3 hr3 => ?_)))))
  refine a_ (f_ rfl) rfl ?_
  cases r3
  ·
   replace hr3 := of_decide_eq_false hr3
   refine n_ rfl rfl rfl rfl (n_ rfl rfl rfl rfl (n_ rfl rfl rfl rfl (n_ rfl rfl rfl rfl (n_ rfl rfl rfl rfl (n_ rfl rfl rfl rfl (n_ rfl rfl rfl rfl (a_ (t_ rfl rfl) rfl (al_ (cL_ false) rfl B_ (fun _ _ _ => by exact trivial) rfl (fun hb => ce_ ((fun hq => by have z := eI_ hq.2 hmqa; omega))) fun ⟨_, hn2⟩ => ?_))))))))
   try dsimp only
   cases hn2
  ·
   replace hr3 := of_decide_eq_true hr3
   refine l_ rfl rfl (a_ (f_ rfl) rfl (l_ rfl rfl (a_ (f_ rfl) rfl (l_ rfl rfl (a_ (aY_ rfl) rfl (l_ rfl rfl (a_ (h_ ba_ rfl rfl rfl aF_) rfl (l_ rfl rfl (a_ (cT_ bb_ rfl (fun v _ h => by exact h.1) rfl) rfl ?_)))))))))
   refine l_ rfl rfl (a_ (aB_ ag_ rfl) rfl (l_ rfl rfl (E_ (au_ rfl rfl) rfl fun r4 hr4 => ?_)))
   refine a_ (z_ rfl rfl) rfl (al_ (cL_ r4) rfl B_ (fun _ _ _ => by exact trivial) rfl (fun hb => ce_ ((fun hq => by have z := eI_ hq.2 hmqa; rw [hb] at hr4; exact of_decide_eq_false hr4 z.2.1))) fun ⟨_, hn3⟩ => ?_)
   try dsimp only
   have hqr : 0 ≤ qa ∧ qa < (List.length fs : Int) := ⟨by omega, of_decide_eq_true (hr4.trans hn3)⟩
   refine d_ (b_ rfl (g_ ?_))
   have hlx1 : (Int.toNat qa) < List.length fs := by omega
   obtain ⟨x1, hx1⟩ : ∃ e0, fs[(Int.toNat qa)]? = some e0 := ⟨_, List.getElem?_eq_getElem hlx1⟩
   have hmx1 : x1 ∈ fs := List.mem_of_getElem? hx1
   refine c_ (a_ (f_ rfl) rfl (a_ (aY_ rfl) rfl (a_ (h_ ba_ rfl rfl rfl aF_) rfl (a_ (cT_ bb_ rfl (fun v _ h => by exact h.1) rfl) rfl (a_ (f_ rfl) rfl (a_ (ah_ ag_ k_ rfl rfl (fun v _ h => aN_ (n := 6) Fc.cells_len (by decide) (by exact h.2.1) hx1) (by omega) (by first | omega | (simp; done))) rfl (a_ (aM_ (ad := fad) (us := Fc.cells x1) R_ k_ rfl (fun v _ h => by exact h.2.1) (Fc.cells_len _) (ak_ Fc.cells_len hx1)) rfl (af_ (pi_ x1 (hfs x1 hmx1)) rfl B_ (fun _ _ _ => by exact trivial) rfl fun r5 hr5 => ?_))))))))
   refine al_ (cL_ r5) rfl B_ (fun _ _ _ => by exact trivial) rfl (fun hb => ce_ ((fun hq => by have z := eI_ hq.2 hmqa; rw [hb] at hr5; rw [eR_ hx1, hr5] at z; exact absurd z.2.2 (by simp)))) fun ⟨_, hn4⟩ => ?_
   try dsimp only
   have hwx : wf2 x1 = true := hr5.trans hn4
   refine d_ (b_ rfl (c_ (a_ (f_ rfl) rfl (a_ (f_ rfl) rfl (a_ (aY_ rfl) rfl (a_ (h_ ba_ rfl rfl rfl aF_) rfl (a_ (cT_ bb_ rfl (fun v _ h => by exact h.1) rfl) rfl (a_ (f_ rfl) rfl (a_ (ah_ ag_ k_ rfl rfl (fun v _ h => aN_ (n := 6) Fc.cells_len (by decide) (by exact h.2.1) hx1) (by omega) (by first | omega | (simp; done))) rfl ?_)))))))))
   refine a_ (aM_ (ad := fad) (us := Fc.cells x1) R_ k_ rfl (fun v _ h => by exact h.2.1) (Fc.cells_len _) (ak_ Fc.cells_len hx1)) rfl (aX_ ag_ k_ aS_ rfl rfl rfl rfl rfl rfl fun b2 => ?_)
   refine bC_ (List.flatMap Fc.cells [x1]) D_ rfl ?_
   refine dD_ (news := List.flatMap Fc.cells [x1]) kG_ hr_Rfc rfl rfl (fun q => by cases q) (by simp) cI_ (by rw [dH_ Fc.cells 6 Fc.cells_len]; rfl) (fun v _ h => by exact h.1) (fun u hu => bS_ Fc.cells_one hu) (by simp only [maxLen]; (have := hi_i; simp only [bO_, List.length_map, List.length_take]; omega)) (by (have := hi_i; simp only [bO_, List.length_map, List.length_take]; omega)) rfl fun sv1 Hr1 hr1 => ?_
   refine aZ_ List.perm_append_comm ?_
   have hq1 : br_ 24 6 sv1 (List.length ((bO_ fs (List.take i (Stp.frm s))) ++ [x1])) (List.flatMap Fc.cells ((bO_ fs (List.take i (Stp.frm s))) ++ [x1])) Hr1 := by rw [List.length_append, List.flatMap_append]; exact hr1
   refine a_ (e_ rfl) rfl (d_ (b_ rfl (c_ (a_ (ac_ rfl rfl rfl (aK_ (by omega) (by omega))) rfl (a_ (f_ rfl) rfl (d_ (q_ rfl ?_)))))))
   exact aO_ ⟨(i + 1, sv1, Hr1), hlqa, jC_ hA hqa hqr.1 hqr.2 hx1 hwx, (by have q := hq1; rw [← jB_ hqa hx1] at q; exact q)⟩ (by dsimp only; omega) ⟨rfl, rfl, rfl, rfl, rfl, trivial⟩ cI_ (fun _ _ h => h.2)
end Go.Proofs.YtaffcjgphlhppaaGreatDoor
namespace Go.Proofs.YtaffcjgphlhppaaGreatDoor
open Go Go.Sx Go.Proofs
attribute [local irreducible] Code.wp wpList wpAnyH
open Go.Vs
theorem oU_ {v : Vw} {F F' : Hp} {b : Nat} {x : Value} (hF : F.Perm ((b, .cells #[x] 4 (0, 0)) :: F')) (t : TypeId) (u : Value) (hs : v.sat F) :
    CallsD Tryz.prog 74 #[zp_ b 0] (.panicking (hM_ t u)) v.w fun e u' w' => e = .returned (.tuple #[]) ∧ u' = .panicking [{ v := .iface t u, recovered := true }] ∧ ∃ v' : Vw, v'.w = w' ∧ v'.sat ((b, .cells #[.bool false] 4 (0, 0)) :: F') ∧ v.to F v' ((b, .cells #[.bool false] 4 (0, 0)) :: F') := by
  have h2 := hs.perm hF
  have hb := (h2.own _ List.mem_cons_self).1
  have hc : v.w.cell? ⟨b, 0, none⟩ = some x := by simp [World.cell?, hb]
  have hz : v.w.frozen? ⟨b, 0, none⟩ = false := by simp [World.frozen?, hb]
  have hlt := (Array.getElem?_eq_some_iff.1 hb).1
  have hset : ((v.w.setCell ⟨b, 0, none⟩ (.bool false)).heap)[b]? = some (.cells #[.bool false] 4 (0, 0)) := by
    simp [World.setCell, Array.getElem?_modify, hb]
  have hoth : ∀ k, k ≠ b → ((v.w.setCell ⟨b, 0, none⟩ (.bool false)).heap)[k]? = v.w.heap[k]? := fun k hk => by
    simp [World.setCell, Array.getElem?_modify, Ne.symm hk]
  obtain ⟨g1, g2⟩ := ef_ (i := 0) (o' := .cells #[.bool false] 4 (0, 0)) (w' := v.w.setCell ⟨b, 0, none⟩ (.bool false)) h2 rfl rfl rfl rfl (Nat.le_refl _) (by simp [World.setCell]) hset hoth
  simp only [List.set_cons_zero] at g1 g2
  refine callsD_of_wpS Tryz.func74 rfl fun c₀ cs hu => ?_
  apply wpS_seq
  apply wpS_region
  simp [wpOpsS, go_sem, recoverD, hu, hM_, Tryz.ntmps74, Exit.thenS]
  refine wpS_cond (t := true) (by simp [Act.eval, Array.replicate]) ?_
  simp only [if_true]
  apply wpS_region
  simp [wpOpsS, go_sem, hc, hz, bodyPostS, results, Tryz.results74]
  exact ⟨_, rfl, g1, g2.permL hF.symm⟩
theorem ns_ (b : Nat) (w : World) : CallsD Tryz.prog 74 #[zp_ b 0] .returning w fun e u' w' => e = .returned (.tuple #[]) ∧ u' = .returning ∧ w' = w := by
  refine callsD_of_wpS Tryz.func74 rfl fun c₀ cs hu => ?_
  apply wpS_seq
  apply wpS_region
  simp [wpOpsS, go_sem, recoverD, hu, Tryz.ntmps74, Exit.thenS]
  refine wpS_cond (t := false) (by simp [Act.eval, Array.replicate]) ?_
  simp only [Bool.false_eq_true, if_false]
  refine wpS_of_wp (wp_skip ?_)
  cases c₀
  simp_all [bodyPostS, results, Tryz.results74]
theorem ni_ (b : Nat) (w : World) : (invoke (.fn (.func 74) #[zp_ b 0]) #[]).run Tryz.prog w = .ok (.enter 74 #[zp_ b 0]) w := by
  exact callable (P := Tryz.prog) Tryz.func74 rfl rfl #[zp_ b 0] w
theorem gB_ {v0 : Vw} {H0 F F' : Hp} {fr : Fr} {b : Nat} {x : Value} {X : Bool} (hX : X = false) (hx : Fr.get fr 4 = some (zp_ b 0)) (hF : F.Perm ((b, .cells #[x] 4 (0, 0)) :: F')) :
    gj_ (bodyPostD Tryz.prog Tryz.f32 (ep_ v0 H0 (fun y : {y : Bool // y = X} => .bool y.1) (fun _ => []) (fun _ => []))) ⟨56, [{ target := .fn (.func 74) #[zp_ b 0], args := #[] }]⟩ v0 H0 fr F :=
  panDf (F' := (b, .cells #[.bool false] 4 (0, 0)) :: F') ⟨false, hX.symm⟩ (ni_ b) (fun v t u hs => oU_ hF t u hs) (fun a v h1 h2 => by
    have e := h1.val 4 _ hx
    have hb := (h2.own _ List.mem_cons_self).1
    have hc : v.w.cell? ⟨b, 0, none⟩ = some (.bool false) := by simp [World.cell?, hb]
    simp [results, Tryz.results32, e, asAddr, bK_ be_ hc]) (.refl _) rfl
theorem ok_ (p : List Pc) (pad : Option Addr) (pcap : Nat) (fs : List Fc) (fad : Option Addr) (fcap : Nat) (vb ab : Nat) (s : Stp) (k : Int) (hpl : p.length ≤ 10000000) : TriX Tryz.prog 77 #[zp_ vb 0, Stp.val s, .int .i64 k] [] [bV_ vb (.cells (cC_ (.slice pad p.length pcap) ab (.slice fad fs.length fcap)).toArray 83 (0, 0)), aR_ pad (List.flatMap Pc.cells p)] (fun _ : {u : Unit // dN_ p s.piece k} => Pc.val (p.getD s.piece.toNat zpc)) (fun _ => []) (fun _ => []) (¬ dN_ p s.piece k) := by
 refine bd_ Tryz.func77 rfl rfl Tryz.ntmps77 rfl fun v0 => ?_
 refine g_ (c_ (aL_ rfl rfl fun b1 => ?_))
 refine ad_ Tryz.zeroValue73 rfl fun b2 => ?_
 refine d_ (b_ rfl (g_ ?_))
 refine aI_ (by kernel_rfl) ?_
 refine K_ 23 [0, 1, 2, 3] (by kernel_rfl) (fun _ a b => ⟨a, b⟩) (j_ rfl (h_ Q_ rfl rfl rfl r_) rfl (j_ rfl (m_ 1 C_ rfl rfl rfl) rfl ?_))
 refine bk_ rfl (ch_ rfl rfl) rfl fun r1 hr1 => ?_
 refine j_ rfl (f_ rfl) rfl (J_ ?_)
 cases r1
 ·
  replace hr1 := of_decide_eq_false hr1
  refine K_ 1 [4, 5, 6, 7, 8, 9, 10, 11, 12, 13, 14, 15, 16, 17, 18, 19, 20, 21, 22, 23, 24, 25] (by kernel_rfl) (fun _ a b => ⟨a, b⟩) (v_ rfl rfl rfl rfl rfl (v_ rfl rfl rfl rfl rfl (v_ rfl rfl rfl rfl rfl (v_ rfl rfl rfl rfl rfl (v_ rfl rfl rfl rfl rfl (v_ rfl rfl rfl rfl rfl (v_ rfl rfl rfl rfl rfl (v_ rfl rfl rfl rfl rfl (j_ rfl (t_ rfl rfl) rfl ?_)))))))))
  refine j_ rfl (f_ rfl) rfl (v_ rfl rfl rfl rfl rfl (v_ rfl rfl rfl rfl rfl (v_ rfl rfl rfl rfl rfl (v_ rfl rfl rfl rfl rfl (v_ rfl rfl rfl rfl rfl (v_ rfl rfl rfl rfl rfl (v_ rfl rfl rfl rfl rfl (v_ rfl rfl rfl rfl rfl (v_ rfl rfl rfl rfl rfl ?_)))))))))
  refine v_ rfl rfl rfl rfl rfl (v_ rfl rfl rfl rfl rfl (j_ rfl (t_ rfl rfl) rfl (J_ (I_ 26 rfl (by kernel_rfl) (al_ (cL_ false) rfl B_ (fun _ _ _ => by exact trivial) rfl (fun hb => ce_ ((fun hq => by unfold dN_ at hq; omega))) fun ⟨_, hn1⟩ => ?_)))))
  try dsimp only
  cases hn1
 ·
  replace hr1 := of_decide_eq_true hr1
  refine K_ 13 [4, 5, 6, 7, 8, 9, 10, 11, 12, 13] (by kernel_rfl) (fun _ a b => ⟨a, b⟩) (p_ rfl rfl rfl (h_ Q_ rfl rfl rfl r_) rfl (p_ rfl rfl rfl (m_ 1 C_ rfl rfl rfl) rfl (p_ rfl rfl rfl (f_ rfl) rfl (p_ rfl rfl rfl (aY_ rfl) rfl (p_ rfl rfl rfl (h_ ba_ rfl rfl rfl pd_) rfl (p_ rfl rfl rfl (cT_ Tryz.isAgg22 rfl (fun v _ h => by exact h.1) rfl) rfl (p_ rfl rfl rfl (aB_ aU_ rfl) rfl ?_)))))))
  refine ar_ rfl rfl rfl (au_ rfl rfl) rfl fun r2 hr2 => ?_
  refine j_ rfl (z_ rfl rfl) rfl (j_ rfl (f_ rfl) rfl (J_ ?_))
  cases r2
  ·
   replace hr2 := of_decide_eq_false hr2
   refine K_ 1 [14, 15, 16, 17, 18, 19, 20, 21, 22, 23, 24, 25] (by kernel_rfl) (fun _ a b => ⟨a, b⟩) (v_ rfl rfl rfl rfl rfl (v_ rfl rfl rfl rfl rfl (v_ rfl rfl rfl rfl rfl (v_ rfl rfl rfl rfl rfl (v_ rfl rfl rfl rfl rfl (v_ rfl rfl rfl rfl rfl (v_ rfl rfl rfl rfl rfl (v_ rfl rfl rfl rfl rfl (v_ rfl rfl rfl rfl rfl ?_)))))))))
   refine v_ rfl rfl rfl rfl rfl (v_ rfl rfl rfl rfl rfl (j_ rfl (t_ rfl rfl) rfl (J_ (I_ 26 rfl (by kernel_rfl) (al_ (cL_ false) rfl B_ (fun _ _ _ => by exact trivial) rfl (fun hb => ce_ ((fun hq => by unfold dN_ at hq; omega))) fun ⟨_, hn2⟩ => ?_)))))
   try dsimp only
   cases hn2
  ·
   replace hr2 := of_decide_eq_true hr2
   have hlx1 : (Int.toNat (Stp.piece s)) < List.length p := by omega
   obtain ⟨x1, hx1⟩ : ∃ e0, p[(Int.toNat (Stp.piece s))]? = some e0 := ⟨_, List.getElem?_eq_getElem hlx1⟩
   have hmx1 : x1 ∈ p := List.mem_of_getElem? hx1
   refine K_ 1 [14, 15, 16, 17, 18, 19, 20, 21, 22, 23, 24, 25] (by kernel_rfl) (fun _ a b => ⟨a, b⟩) (p_ rfl rfl rfl (f_ rfl) rfl (p_ rfl rfl rfl (aY_ rfl) rfl (p_ rfl rfl rfl (h_ ba_ rfl rfl rfl pd_) rfl (p_ rfl rfl rfl (cT_ Tryz.isAgg22 rfl (fun v _ h => by exact h.1) rfl) rfl (p_ rfl rfl rfl (h_ Q_ rfl rfl rfl r_) rfl (p_ rfl rfl rfl (m_ 1 C_ rfl rfl rfl) rfl (p_ rfl rfl rfl (ah_ aU_ ai_ rfl rfl (fun v _ h => aN_ (n := 10) Pc.cells_len (by decide) (by exact h.2.1) hx1) (by omega) (by first | omega | (simp; done))) rfl (p_ rfl rfl rfl (bL_ M_ rfl rfl rfl r_) rfl (p_ rfl rfl rfl (bj_ (ad := pad) C_ rfl (fun v _ h => by exact h.2.1) (ak_ Pc.cells_len hx1 0 _ rfl)) rfl ?_)))))))))
   refine p_ rfl rfl rfl (f_ rfl) rfl ?_
   refine ar_ rfl rfl rfl (aC_ rfl rfl) rfl fun r3 hr3 => ?_
   refine j_ rfl (z_ rfl rfl) rfl (J_ (I_ 26 rfl (by kernel_rfl) (al_ (cL_ r3) rfl B_ (fun _ _ _ => by exact trivial) rfl (fun hb => ce_ ((fun hq => by rw [hb] at hr3; have z := hq.2.2; rw [eR_ hx1] at z; rw [z] at hr3; simp at hr3))) fun ⟨_, hn3⟩ => ?_)))
   try dsimp only
   have hpk : dN_ p (Stp.piece s) k := ⟨by omega, by omega, by rw [eR_ hx1]; exact eq_of_beq (hr3.trans hn3)⟩
   refine d_ (q_ rfl (A_ (fun _ a b => ⟨a, b⟩) (S_ (by kernel_rfl) (b_ rfl (g_ ?_)))))
   refine cq_ ((b1, .cells #[.int .i64 (Stp.rule s), .int .i64 (Fc.kind (Stp.fact s)), str (Fc.a (Stp.fact s)), str (Fc.b (Stp.fact s)), str (Fc.r (Stp.fact s)), .int .i64 (Fc.lo (Stp.fact s)), .int .i64 (Fc.hi (Stp.fact s)), .int .i64 (Stp.piece s), .slice (Stp.ad s) (List.length (Stp.frm s)) (Stp.cap s)] 36 (0, 0)) :: []) (by kernel_rfl) ?_
   refine K_ 1 [0, 1, 2, 3, 4, 5, 6, 7] (by kernel_rfl) (fun _ a b => ⟨a.tail, b⟩) (j_ rfl (f_ rfl) rfl (j_ rfl (aY_ rfl) rfl (j_ rfl (h_ ba_ rfl rfl rfl pd_) rfl (j_ rfl (cT_ Tryz.isAgg22 rfl (fun v _ h => by exact h.1) rfl) rfl (j_ rfl (h_ Q_ rfl rfl rfl r_) rfl (j_ rfl (m_ 0 C_ rfl rfl rfl) rfl (j_ rfl (ah_ aU_ ai_ rfl rfl (fun v _ h => aN_ (n := 10) Pc.cells_len (by decide) (by exact h.2.1) hx1) (by omega) (by first | omega | (simp; done))) rfl (j_ rfl (aM_ (ad := pad) (us := Pc.cells x1) gL_ ai_ rfl (fun v _ h => by exact h.2.1) (Pc.cells_len _) (ak_ Pc.cells_len hx1)) rfl (J_ ?_)))))))))
   refine I_ 8 rfl (by kernel_rfl) (X_ 0 ai_ rfl rfl rfl rfl rfl rfl (d_ (q_ rfl (A_ (fun _ a b => ⟨a.tail, b⟩) (S_ (by kernel_rfl) (b_ rfl (u_ ?_)))))))
   refine bN_ ?_
   exact fB_ ⟨(), hpk⟩ (fun aa v h1 h2 => by rw [eR_ hx1]; exact ck_ (us := Pc.cells x1) 0 Tryz.results77 gL_ ai_ rfl rfl rfl aa v h1 h2) B_ (fun _ _ _ => trivial)
end Go.Proofs.YtaffcjgphlhppaaGreatDoor
namespace Go.Proofs.YtaffcjgphlhppaaGreatDoor
open Go Go.Sx Go.Proofs
attribute [local irreducible] Code.wp wpList wpAnyH
open Go.Vs
theorem ft_ {α : Type} : ∀ {l : List α}, l.length = 2 → ∃ a b, l = [a, b]
  | [a, b], _ => ⟨a, b, rfl⟩
theorem rule_c (k : Int) (h1 : 1 ≤ k) (h2 : k ≤ 16) : ∃ g : FuncId, gK_[3 * k.toNat]? = some (.int .i64 (hw_ k)) ∧ gK_[3 * k.toNat + 1]? = some (.int .i64 (dm_ k)) ∧ gK_[3 * k.toNat + 2]? = some (.func (.func g) #[] #[]) ∧
    ∀ (kn : Str → Bool) (q : List Str) (_ : ∀ s, kn s = true ↔ s ∈ q) (es : Array MapEntry) (ec : Nat) (_ : SetE str es q) (vb ab : Nat) (pv fv : Value) (x : Pc) (f : Fc) (lad : Option Addr) (lcap : Nat) (l : List Fc) (_ : (l.length : Int) = hw_ k) (_ : ∀ y ∈ l, wf2 y = true) (_ : wf2 f = true) (_ : k = 14 → -1099511627776 ≤ x.lo ∧ x.lo ≤ x.hi ∧ x.hi ≤ 1099511627776),
    TriX Tryz.prog g #[.agg #[zp_ vb 0, .int .i64 f.kind, str f.a, str f.b, str f.r, .int .i64 f.lo, .int .i64 f.hi, .slice lad l.length lcap, .int .i64 x.kind, str x.a, str x.b, str x.c, str x.r, str x.s, str x.t, .int .i64 x.lo, .int .i64 x.hi, .int .i64 x.frm]] [] [bV_ vb (.cells (cC_ pv ab fv).toArray 83 (0, 0)), bV_ ab (.map es ec), aR_ lad (List.flatMap Fc.cells l)] (fun _ : Unit => .bool (ff_ kn k x f (l.getD 0 zfc) (l.getD 1 zfc))) (fun _ => []) (fun _ => []) (ff_ kn k x f (l.getD 0 zfc) (l.getD 1 zfc) = false) := by
  have hk : k = 1 ∨ k = 2 ∨ k = 3 ∨ k = 4 ∨ k = 5 ∨ k = 6 ∨ k = 7 ∨ k = 8 ∨ k = 9 ∨ k = 10 ∨ k = 11 ∨ k = 12 ∨ k = 13 ∨ k = 14 ∨ k = 15 ∨ k = 16 := by omega
  rcases hk with rfl | rfl | rfl | rfl | rfl | rfl | rfl | rfl | rfl | rfl | rfl | rfl | rfl | rfl | rfl | rfl
  · refine ⟨128, rfl, rfl, rfl, fun kn q hkn es ec hE vb ab pv fv x f lad lcap l hl hw wf hx => ?_⟩
    obtain rfl : l = [] := List.eq_nil_of_length_eq_zero (by have q : (l.length : Int) = 0 := hl; omega)
    exact ((oA_ kn q hkn es ec hE vb ab pv fv x f lad lcap).toX _)
  · refine ⟨130, rfl, rfl, rfl, fun kn q hkn es ec hE vb ab pv fv x f lad lcap l hl hw wf hx => ?_⟩
    obtain rfl : l = [] := List.eq_nil_of_length_eq_zero (by have q : (l.length : Int) = 0 := hl; omega)
    exact ((oz_ kn q hkn es ec hE vb ab pv fv x f lad lcap).toX _)
  · refine ⟨131, rfl, rfl, rfl, fun kn q hkn es ec hE vb ab pv fv x f lad lcap l hl hw wf hx => ?_⟩
    obtain ⟨ga, rfl⟩ : ∃ ga, l = [ga] := List.length_eq_one_iff.1 (by have q : (l.length : Int) = 1 := hl; omega)
    exact ((oy_ kn q hkn es ec hE vb ab pv fv x f ga lad lcap).toX _)
  · refine ⟨132, rfl, rfl, rfl, fun kn q hkn es ec hE vb ab pv fv x f lad lcap l hl hw wf hx => ?_⟩
    obtain ⟨ga, gb, rfl⟩ : ∃ ga gb, l = [ga, gb] := ft_ (by have q : (l.length : Int) = 2 := hl; omega)
    exact ((ox_ kn q hkn es ec hE vb ab pv fv x f ga gb lad lcap).toX _)
  · refine ⟨133, rfl, rfl, rfl, fun kn q hkn es ec hE vb ab pv fv x f lad lcap l hl hw wf hx => ?_⟩
    obtain ⟨ga, rfl⟩ : ∃ ga, l = [ga] := List.length_eq_one_iff.1 (by have q : (l.length : Int) = 1 := hl; omega)
    exact ((ow_ kn q hkn es ec hE vb ab pv fv x f ga lad lcap).toX _)
  · refine ⟨135, rfl, rfl, rfl, fun kn q hkn es ec hE vb ab pv fv x f lad lcap l hl hw wf hx => ?_⟩
    obtain ⟨ga, rfl⟩ : ∃ ga, l = [ga] := List.length_eq_one_iff.1 (by have q : (l.length : Int) = 1 := hl; omega)
    exact ((ov_ kn q hkn es ec hE vb ab pv fv x f ga lad lcap).toX _)
  · refine ⟨136, rfl, rfl, rfl, fun kn q hkn es ec hE vb ab pv fv x f lad lcap l hl hw wf hx => ?_⟩
    obtain ⟨ga, gb, rfl⟩ : ∃ ga gb, l = [ga, gb] := ft_ (by have q : (l.length : Int) = 2 := hl; omega)
    exact ((ou_ kn q hkn es ec hE vb ab pv fv x f ga gb lad lcap).toX _)
  · refine ⟨137, rfl, rfl, rfl, fun kn q hkn es ec hE vb ab pv fv x f lad lcap l hl hw wf hx => ?_⟩
    obtain ⟨ga, gb, rfl⟩ : ∃ ga gb, l = [ga, gb] := ft_ (by have q : (l.length : Int) = 2 := hl; omega)
    exact ((ot_ kn q hkn es ec hE vb ab pv fv x f ga gb lad lcap).toX _)
  · refine ⟨138, rfl, rfl, rfl, fun kn q hkn es ec hE vb ab pv fv x f lad lcap l hl hw wf hx => ?_⟩
    obtain ⟨ga, gb, rfl⟩ : ∃ ga gb, l = [ga, gb] := ft_ (by have q : (l.length : Int) = 2 := hl; omega)
    exact ((os_ kn q hkn es ec hE vb ab pv fv x f ga gb lad lcap).toX _)
  · refine ⟨139, rfl, rfl, rfl, fun kn q hkn es ec hE vb ab pv fv x f lad lcap l hl hw wf hx => ?_⟩
    obtain rfl : l = [] := List.eq_nil_of_length_eq_zero (by have q : (l.length : Int) = 0 := hl; omega)
    exact ((ne_ kn q hkn es ec hE vb ab pv fv x f lad lcap).toX _)
  · refine ⟨140, rfl, rfl, rfl, fun kn q hkn es ec hE vb ab pv fv x f lad lcap l hl hw wf hx => ?_⟩
    obtain ⟨ga, rfl⟩ : ∃ ga, l = [ga] := List.length_eq_one_iff.1 (by have q : (l.length : Int) = 1 := hl; omega)
    exact ((nd_ kn q hkn es ec hE vb ab pv fv x f ga lad lcap).toX _)
  · refine ⟨141, rfl, rfl, rfl, fun kn q hkn es ec hE vb ab pv fv x f lad lcap l hl hw wf hx => ?_⟩
    obtain ⟨ga, gb, rfl⟩ : ∃ ga gb, l = [ga, gb] := ft_ (by have q : (l.length : Int) = 2 := hl; omega)
    exact (nc_ kn q hkn es ec hE vb ab pv fv x f ga gb lad lcap (hw _ (by simp)) (hw _ (by simp)) wf)
  · refine ⟨142, rfl, rfl, rfl, fun kn q hkn es ec hE vb ab pv fv x f lad lcap l hl hw wf hx => ?_⟩
    obtain ⟨ga, gb, rfl⟩ : ∃ ga gb, l = [ga, gb] := ft_ (by have q : (l.length : Int) = 2 := hl; omega)
    exact (nb_ kn q hkn es ec hE vb ab pv fv x f ga gb lad lcap (hw _ (by simp)) (hw _ (by simp)))
  · refine ⟨143, rfl, rfl, rfl, fun kn q hkn es ec hE vb ab pv fv x f lad lcap l hl hw wf hx => ?_⟩
    obtain ⟨ga, rfl⟩ : ∃ ga, l = [ga] := List.length_eq_one_iff.1 (by have q : (l.length : Int) = 1 := hl; omega)
    exact (na_ kn q hkn es ec hE vb ab pv fv x f ga lad lcap (hw _ (by simp)) (hx rfl))
  · refine ⟨144, rfl, rfl, rfl, fun kn q hkn es ec hE vb ab pv fv x f lad lcap l hl hw wf hx => ?_⟩
    obtain ⟨ga, rfl⟩ : ∃ ga, l = [ga] := List.length_eq_one_iff.1 (by have q : (l.length : Int) = 1 := hl; omega)
    exact ((mZ_ kn q hkn es ec hE vb ab pv fv x f ga lad lcap).toX _)
  · refine ⟨145, rfl, rfl, rfl, fun kn q hkn es ec hE vb ab pv fv x f lad lcap l hl hw wf hx => ?_⟩
    obtain ⟨ga, rfl⟩ : ∃ ga, l = [ga] := List.length_eq_one_iff.1 (by have q : (l.length : Int) = 1 := hl; omega)
    exact (mY_ kn q hkn es ec hE vb ab pv fv x f ga lad lcap (hw _ (by simp)) wf)
theorem mf_ {P : Program} {N : Nf} {fr : Fr} {H : Hp} {Γ : List Fct} {ty t : TypeId} {x : Operand} {vb ab : Nat} {pv fv u0 u1 u2 : Value} {T : TypeId} {k : Nat} (ha : ∀ w, (isAgg t).run P w = .ok true w) (hs : ∀ w, (sizeOf t).run P w = .ok 3 w) (h0 : gK_[3 * k]? = some u0) (h1 : gK_[3 * k + 1]? = some u1) (h2 : gK_[3 * k + 2]? = some u2)
    (hx : Fr.ev fr x = some (.pointer (some ⟨vb, 3 + k * 3, none⟩))) (hv : ∀ v, v.sat H → aw_ Γ v → (bV_ vb (.cells (cC_ pv ab fv).toArray T (0, 0))).p v) : Yld P N fr H Γ (.load t x) ty (.agg #[u0, u1, u2]) :=
  fl_ hx fun v g2 g4 => cp_ (n := 3) (cs := [u0, u1, u2]) ha hs rfl fun j y hj => by
    have hb := (hv v g2 g4).2
    have key : ∀ i, (cC_ pv ab fv)[3 + i]? = gK_[i]? := fun i => by rw [Nat.add_comm]; rfl
    have e : ∀ i u, gK_[3 * k + i]? = some u → v.w.cell? ⟨vb, 3 + k * 3 + i, none⟩ = some u := fun i u hu => by
      have := key (3 * k + i)
      rw [hu] at this
      simp only [World.cell?, hb]
      rw [show 3 + k * 3 + i = 3 + (3 * k + i) by omega]
      simpa using this
    match j with
    | 0 => simp at hj; subst hj; exact e 0 _ h0
    | 1 => simp at hj; subst hj; exact e 1 _ h1
    | 2 => simp at hj; subst hj; exact e 2 _ h2
    | j + 3 => simp at hj
theorem nC_ {p : List Pc} {fs : List Fc} {s : Stp} (h : ¬ (1 ≤ s.rule ∧ s.rule ≤ 16)) : df_ p fs s = false := by
  rw [Bool.eq_false_iff]; intro q
  simp only [df_, Bool.and_eq_true, decide_eq_true_eq] at q
  exact h ⟨q.1, q.2.1⟩
theorem corB_w {p : List Pc} {fs : List Fc} {s : Stp} (h : wf2 s.fact = false) : df_ p fs s = false := by
  rw [Bool.eq_false_iff]; intro q
  simp only [df_, Bool.and_eq_true, decide_eq_true_eq] at q
  rw [h] at q; exact absurd q.2.2.1 (by simp)
theorem corB_m {p : List Pc} {fs : List Fc} {s : Stp} (h : ¬ jl_ fs s.frm (hw_ s.rule)) : df_ p fs s = false := by
  rw [Bool.eq_false_iff]; intro q
  simp only [df_, Bool.and_eq_true, decide_eq_true_eq] at q
  exact h ⟨q.2.2.2.1, q.2.2.2.2.1⟩
theorem nD_ {p : List Pc} {fs : List Fc} {s : Stp} (h : eK_ p s.rule s.piece = false) : df_ p fs s = false := by
  rw [Bool.eq_false_iff]; intro q
  simp only [df_, Bool.and_eq_true, decide_eq_true_eq] at q
  rw [h] at q; exact absurd q.2.2.2.2.2.1 (by simp)
theorem gR_ {p : List Pc} {fs : List Fc} {s : Stp} (hr : 1 ≤ s.rule ∧ s.rule ≤ 16) (wf : wf2 s.fact = true) (hm : jl_ fs s.frm (hw_ s.rule)) (hp : eK_ p s.rule s.piece = true) :
    df_ p fs s = ff_ (cR_ p) s.rule (fc_ p s.rule s.piece) s.fact ((bO_ fs s.frm).getD 0 zfc) ((bO_ fs s.frm).getD 1 zfc) := by
  unfold df_
  rw [decide_eq_true hr.1, decide_eq_true hr.2, wf, decide_eq_true hm.1, hm.2, hp]
  simp only [Bool.true_and]
theorem hi_ {p : List Pc} {k q : Int} (hk : dm_ k = 0) : eK_ p k q = decide (q = -1) := if_pos hk
theorem fW_ {p : List Pc} {k q : Int} (hk : dm_ k ≠ 0) : eK_ p k q = true ↔ dN_ p q (dm_ k) := by
  unfold eK_ dN_
  rw [if_neg hk]
  simp only [Bool.and_eq_true, decide_eq_true_eq]
theorem ib_ {fs : List Fc} {frm : List Int} (h : fb_ fs frm = true) : ∀ y ∈ bO_ fs frm, wf2 y = true := fun y hy => by
  obtain ⟨q, hq, rfl⟩ := List.mem_map.1 hy
  exact (eI_ h hq).2.2
theorem hg_ {fs : List Fc} {frm : List Int} : (bO_ fs frm).length = frm.length := by simp [bO_]
theorem mR_ {a : Nat × Obj} {F : Hp} : List.Perm (a :: F) (a :: F) := .refl _
theorem pg_ {a b : Nat × Obj} {F : Hp} : List.Perm (b :: a :: F) (a :: b :: F) := .swap _ _ _
theorem lb_ {a b c : Nat × Obj} {F : Hp} : List.Perm (c :: b :: a :: F) (a :: c :: b :: F) := ((pg_ (F := F)).cons c).trans (.swap _ _ _)
theorem mM_ {P : Program} {N : Nf} {fr : Fr} {H : Hp} {fn : Func} {t b : Nat} {ty T : TypeId} {u : Value} (i : Nat) (hr : fn.results = #[.cell t ty]) (ha : ∀ w, (isAgg ty).run P w = .ok false w) (hx : Fr.get fr t = some (zp_ b 0)) (hi : H[i]? = some (b, .cells #[u] T (0, 0))) (a : Act) (v : Vw) (h1 : Fr.sat N fr a) (h2 : v.sat H) :
    (results fn a.tmps).run P v.w = .ok u v.w := by
  have e := h1.val t _ hx
  have hb := (h2.own _ (List.mem_of_getElem? hi)).1
  have hc : v.w.cell? ⟨b, 0, none⟩ = some u := by simp [World.cell?, hb]
  simp [results, hr, e, asAddr, bK_ ha hc]
theorem iy_ (p : List Pc) (pad : Option Addr) (pcap : Nat) (fs : List Fc) (fad : Option Addr) (fcap : Nat) (vb ab : Nat) (s : Stp) (q : List Str) (hkn : ∀ s, cR_ p s = true ↔ s ∈ q) (es : Array MapEntry) (ec : Nat) (hE : SetE str es q) (hpl : p.length ≤ 10000000) (hpv : ∀ k : Int, k = 14 → dN_ p s.piece (dm_ k) → -1099511627776 ≤ (p.getD s.piece.toNat zpc).lo ∧ (p.getD s.piece.toNat zpc).lo ≤ (p.getD s.piece.toNat zpc).hi ∧ (p.getD s.piece.toNat zpc).hi ≤ 1099511627776) (hfl : fs.length ≤ 10000000) (hfr : s.frm.length ≤ 1000000) (hfs : ∀ x ∈ fs, x.sml) (hsf : s.fact.sml) : Tri Tryz.prog 32 #[zp_ vb 0, Stp.val s] [] [bV_ vb (.cells (cC_ (.slice pad p.length pcap) ab (.slice fad fs.length fcap)).toArray 83 (0, 0)), bV_ ab (.map es ec), aR_ pad (List.flatMap Pc.cells p), aR_ fad (List.flatMap Fc.cells fs), aR_ (Stp.ad s) (List.flatMap cV_ (Stp.frm s))] (fun y : {y : Bool // y = df_ p fs s} => .bool y.1) (fun _ => []) (fun _ => []) := by
 refine fM_ Tryz.func32 rfl rfl Tryz.ntmps32 rfl fun v0 => ?_
 refine g_ (c_ (aL_ rfl rfl fun b1 => ?_))
 refine ad_ Tryz.zeroValue4 rfl fun b2 => ?_
 refine d_ (b_ rfl (g_ (c_ (a_ (cW_ rfl rfl) rfl (ig_ (N := 56) (D := []) rfl rfl rfl (d_ (b_ rfl (g_ (c_ ?_)))))))))
 refine a_ (h_ Q_ rfl rfl rfl r_) rfl (a_ (m_ 1 C_ rfl rfl rfl) rfl (E_ (ch_ rfl rfl) rfl fun r1 hr1 => ?_))
 refine a_ (f_ rfl) rfl ?_
 cases r1
 ·
  replace hr1 := of_decide_eq_false hr1
  refine n_ rfl rfl rfl rfl (n_ rfl rfl rfl rfl (n_ rfl rfl rfl rfl (a_ (t_ rfl rfl) rfl (a_ (f_ rfl) rfl (n_ rfl rfl rfl rfl (n_ rfl rfl rfl rfl (n_ rfl rfl rfl rfl (a_ (t_ rfl rfl) rfl (al_ (cL_ false) rfl B_ (fun _ _ _ => by exact trivial) rfl (fun hb => gB_ (x := .bool false) (X := df_ p fs s) (nC_ (by omega)) rfl (mR_)) fun ⟨_, hn1⟩ => ?_)))))))))
  try dsimp only
  cases hn1
 ·
  replace hr1 := of_decide_eq_true hr1
  refine l_ rfl rfl (a_ (h_ Q_ rfl rfl rfl r_) rfl (l_ rfl rfl (a_ (m_ 1 C_ rfl rfl rfl) rfl (l_ rfl rfl (E_ (au_ rfl rfl) rfl fun r2 hr2 => ?_)))))
  refine a_ (z_ rfl rfl) rfl (a_ (f_ rfl) rfl ?_)
  cases r2
  ·
   replace hr2 := of_decide_eq_false hr2
   refine n_ rfl rfl rfl rfl (n_ rfl rfl rfl rfl (n_ rfl rfl rfl rfl (a_ (t_ rfl rfl) rfl (al_ (cL_ false) rfl B_ (fun _ _ _ => by exact trivial) rfl (fun hb => gB_ (x := .bool false) (X := df_ p fs s) (nC_ (by omega)) rfl (mR_)) fun ⟨_, hn2⟩ => ?_))))
   try dsimp only
   cases hn2
  ·
   replace hr2 := of_decide_eq_true hr2
   refine l_ rfl rfl (a_ (h_ Q_ rfl rfl rfl k_) rfl (l_ rfl rfl (a_ (O_ 1 R_ k_ rfl rfl rfl) rfl (l_ rfl rfl (af_ (pi_ (Stp.fact s) hsf) rfl B_ (fun _ _ _ => by exact trivial) rfl fun r3 hr3 => ?_)))))
   refine a_ (z_ rfl rfl) rfl (al_ (cL_ r3) rfl B_ (fun _ _ _ => by exact trivial) rfl (fun hb => gB_ (x := .bool false) (X := df_ p fs s) (corB_w (hr3.trans hb)) rfl (mR_)) fun ⟨_, hn3⟩ => ?_)
   try dsimp only
   have wf : wf2 (Stp.fact s) = true := hr3.trans hn3
   have hru : 1 ≤ Stp.rule s ∧ Stp.rule s ≤ 16 := by omega
   obtain ⟨gk, hr0, hr1, hr2, hT⟩ := rule_c (Stp.rule s) hru.1 hru.2
   refine d_ (b_ rfl (g_ ?_))
   refine oe_ (ι := {y : Nat // True}) (fun y => [(0, zp_ vb 0), (3, zp_ b1 0), (4, zp_ b2 0), (5, zp_ y.1 0)]) (fun y => ((b1, .cells #[.int .i64 (Stp.rule s), .int .i64 (Fc.kind (Stp.fact s)), str (Fc.a (Stp.fact s)), str (Fc.b (Stp.fact s)), str (Fc.r (Stp.fact s)), .int .i64 (Fc.lo (Stp.fact s)), .int .i64 (Fc.hi (Stp.fact s)), .int .i64 (Stp.piece s), .slice (Stp.ad s) (List.length (Stp.frm s)) (Stp.cap s)] 36 (0, 0)) :: ((b2, .cells #[.bool false] 4 (0, 0)) :: ((y.1, .cells #[.int .i64 (hw_ (Stp.rule s)), .int .i64 (dm_ (Stp.rule s)), .func (.func gk) #[] #[]] 80 (0, 0)) :: [])))) (fun y => [bV_ vb (.cells (cC_ (.slice pad p.length pcap) ab (.slice fad fs.length fcap)).toArray 83 (0, 0)), bV_ ab (.map es ec), aR_ pad (List.flatMap Pc.cells p), aR_ fad (List.flatMap Fc.cells fs), aR_ (Stp.ad s) (List.flatMap cV_ (Stp.frm s))]) ?_ ?_
   ·
    refine cq_ ((b2, .cells #[.bool false] 4 (0, 0)) :: ((b1, .cells #[.int .i64 (Stp.rule s), .int .i64 (Fc.kind (Stp.fact s)), str (Fc.a (Stp.fact s)), str (Fc.b (Stp.fact s)), str (Fc.r (Stp.fact s)), .int .i64 (Fc.lo (Stp.fact s)), .int .i64 (Fc.hi (Stp.fact s)), .int .i64 (Stp.piece s), .slice (Stp.ad s) (List.length (Stp.frm s)) (Stp.cap s)] 36 (0, 0)) :: [])) (by kernel_rfl) ?_
    refine K_ 2 [0, 1, 2, 3, 4, 5, 6] (by kernel_rfl) (fun _ a b => ⟨a, b⟩) (j_ rfl (f_ rfl) rfl (j_ rfl (h_ Q_ rfl rfl rfl r_) rfl (j_ rfl (m_ 1 C_ rfl rfl rfl) rfl (j_ rfl (aY_ rfl) rfl (j_ rfl (h_ ba_ rfl rfl rfl Tryz.sizeOf81) rfl (j_ rfl (bW_ (dP_ (off := 3) Tryz.runUnderlying81 Tryz.sizeOf80 rfl rfl (by omega) (by omega)) (show _ = Value.pointer (some ⟨vb, 3 + (Int.toNat (Stp.rule s)) * 3, none⟩) from rfl)) rfl (j_ rfl (mf_ Tryz.isAgg80 Tryz.sizeOf80 hr0 hr1 hr2 rfl (fun v _ h => by exact h.1)) rfl (J_ (I_ 7 rfl (by kernel_rfl) ?_)))))))))
    refine ad_ Tryz.zeroValue80 rfl fun b3 => ?_
    refine d_ (q_ rfl (A_ (fun _ a b => ⟨a.tail, b⟩) (I_ 8 rfl (by kernel_rfl) (X_ 0 Tryz.sizeOf80 rfl rfl rfl rfl rfl rfl (d_ (q_ rfl (A_ (fun _ a b => ⟨a.tail, b⟩) (S_ (by kernel_rfl) (ge_ rfl ?_)))))))))
    exact jN_ ⟨b3, trivial⟩ ⟨rfl, rfl, rfl, rfl, trivial⟩ (N_ (H_ (H_ D_)) (N_ (H_ D_) D_)) (fun v _ h => by exact ⟨h.1, h.2.1, h.2.2.1, h.2.2.2.1, h.2.2.2.2.1, trivial⟩)
   ·
    rintro ⟨z3_7, _⟩
    dsimp only
    refine cF_ [(0, zp_ vb 0), (3, zp_ b1 0), (4, zp_ b2 0), (5, zp_ z3_7 0)] ⟨rfl, rfl, rfl, rfl, trivial⟩ ?_
    refine b_ rfl (g_ (c_ (a_ (f_ rfl) rfl (a_ (O_ 0 cx_ as_ rfl rfl rfl) rfl (a_ (h_ dS_ rfl rfl rfl r_) rfl (a_ (m_ 2 C_ rfl rfl rfl) rfl (al_ (ks_ p pad pcap fs fad fcap vb ab s (hw_ (Stp.rule s)) hfl hfr hfs) rfl B_ (fun v _ h => by exact ⟨h.1, h.2.2.2.1, h.2.2.2.2.1, trivial⟩) rfl (fun hb => gB_ (x := .bool false) (X := df_ p fs s) (corB_m hb) rfl (pg_)) fun ⟨⟨lad, lcap⟩, hPm⟩ => ?_)))))))
    try dsimp only
    refine a_ (e_ rfl) rfl (d_ (b_ rfl (g_ (c_ (ad_ Tryz.zeroValue73 rfl fun b4 => ?_)))))
    refine d_ (b_ rfl (g_ (g_ (c_ (a_ (h_ dS_ rfl rfl rfl r_) rfl (a_ (m_ 3 C_ rfl rfl rfl) rfl (E_ (aC_ rfl rfl) rfl fun r4 hr4 => ?_)))))))
    refine d_ (b_ rfl ?_)
    cases r4
    ·
     replace hr4 := ne_of_beq_false hr4
     have hz : dm_ (Stp.rule s) ≠ 0 := by omega
     refine y_ rfl (c_ (a_ (f_ rfl) rfl (a_ (O_ 1 cx_ as_ rfl rfl rfl) rfl (a_ (h_ dS_ rfl rfl rfl r_) rfl (a_ (m_ 3 C_ rfl rfl rfl) rfl (al_ (ok_ p pad pcap fs fad fcap vb ab s (dm_ (Stp.rule s)) hpl) rfl B_ (fun v _ h => by exact ⟨h.2.1, h.2.2.2.1, trivial⟩) rfl (fun hb => gB_ (x := .bool false) (X := df_ p fs s) (nD_ (Bool.eq_false_iff.2 fun hq => hb ((fW_ hz).1 hq))) rfl (lb_)) fun ⟨_, hPk⟩ => ?_))))))
     try dsimp only
     have hpb : eK_ p (Stp.rule s) (Stp.piece s) = true := (fW_ hz).2 hPk
     have hpl8 : (List.getD p (Int.toNat (Stp.piece s)) zpc) = fc_ p (Stp.rule s) (Stp.piece s) := (if_neg hz).symm
     refine X_ 0 ai_ rfl rfl rfl rfl rfl rfl (d_ (b_ rfl (g_ (c_ (a_ (h_ dS_ rfl rfl rfl Tryz.sizeOf78) rfl (a_ (m_ 3 Tryz.isAgg78 rfl rfl rfl) rfl (a_ (f_ rfl) rfl (a_ (h_ Q_ rfl rfl rfl k_) rfl (a_ (O_ 1 R_ k_ rfl rfl rfl) rfl ?_)))))))))
     refine a_ (f_ rfl) rfl (a_ (O_ 0 gL_ ai_ rfl rfl rfl) rfl (a_ (ax_ kW_ rfl rfl) rfl (eM_ (hT (cR_ p) q hkn es ec hE vb ab (.slice pad p.length pcap) (.slice fad fs.length fcap) (List.getD p (Int.toNat (Stp.piece s)) zpc) (Stp.fact s) lad lcap (bO_ fs (Stp.frm s)) (by rw [hg_]; exact hPm.1) (ib_ hPm.2) wf (fun h14 => hpv _ h14 hPk)) rfl rfl B_ (fun v _ h => by exact ⟨h.2.1, h.2.2.1, h.1, trivial⟩) rfl (fun hb => gB_ (x := .bool false) (X := df_ p fs s) ((gR_ hru wf hPm hpb).trans (by rw [← hpl8]; exact hb)) rfl (lb_)) fun _ => ?_)))
     refine X_ 2 aW_ rfl rfl rfl rfl rfl rfl (d_ (b_ rfl (u_ ?_)))
     have hfin : (ff_ (cR_ p) (Stp.rule s) (List.getD p (Int.toNat (Stp.piece s)) zpc) (Stp.fact s) (List.getD (bO_ fs (Stp.frm s)) 0 zfc) (List.getD (bO_ fs (Stp.frm s)) 1 zfc)) = df_ p fs s := by have z := gR_ hru wf hPm hpb; rw [← hpl8] at z; exact z.symm
     exact mJ_ (F := _) ⟨(ff_ (cR_ p) (Stp.rule s) (List.getD p (Int.toNat (Stp.piece s)) zpc) (Stp.fact s) (List.getD (bO_ fs (Stp.frm s)) 0 zfc) (List.getD (bO_ fs (Stp.frm s)) 1 zfc)), hfin⟩ (ni_ b2) (ns_ b2) (fun a v h1 h2 => mM_ 2 Tryz.results32 be_ rfl rfl a v h1 h2) B_ (fun _ _ _ => trivial)
    ·
     replace hr4 := eq_of_beq hr4
     have hz : dm_ (Stp.rule s) = 0 := by omega
     refine w_ rfl (c_ (a_ (h_ Q_ rfl rfl rfl r_) rfl (a_ (m_ 1 C_ rfl rfl rfl) rfl (E_ (aC_ rfl rfl) rfl fun r5 hr5 => ?_))))
     refine al_ (cL_ r5) rfl B_ (fun _ _ _ => by exact trivial) rfl (fun hb => gB_ (x := .bool false) (X := df_ p fs s) (nD_ (by rw [hi_ hz]; rw [hb] at hr5; simpa using hr5)) rfl (lb_)) fun ⟨_, hn4⟩ => ?_
     try dsimp only
     have hpb : eK_ p (Stp.rule s) (Stp.piece s) = true := by rw [hi_ hz]; have z := hr5.trans hn4; simpa using z
     have hpl8 : zpc = fc_ p (Stp.rule s) (Stp.piece s) := (if_pos hz).symm
     refine d_ (b_ rfl (g_ (c_ (a_ (h_ dS_ rfl rfl rfl Tryz.sizeOf78) rfl (a_ (m_ 3 Tryz.isAgg78 rfl rfl rfl) rfl (a_ (f_ rfl) rfl (a_ (h_ Q_ rfl rfl rfl k_) rfl (a_ (O_ 1 R_ k_ rfl rfl rfl) rfl (a_ (f_ rfl) rfl ?_)))))))))
     refine a_ (O_ 0 gL_ ai_ rfl rfl rfl) rfl (a_ (ax_ kW_ rfl rfl) rfl (eM_ (hT (cR_ p) q hkn es ec hE vb ab (.slice pad p.length pcap) (.slice fad fs.length fcap) (Pc.mk 0 [] [] [] [] [] [] 0 0 0) (Stp.fact s) lad lcap (bO_ fs (Stp.frm s)) (by rw [hg_]; exact hPm.1) (ib_ hPm.2) wf (fun h14 => (by have := hz; rw [h14] at this; exact absurd this (by decide)))) rfl rfl B_ (fun v _ h => by exact ⟨h.2.1, h.2.2.1, h.1, trivial⟩) rfl (fun hb => gB_ (x := .bool false) (X := df_ p fs s) ((gR_ hru wf hPm hpb).trans (by rw [← hpl8]; exact hb)) rfl (lb_)) fun _ => ?_))
     refine X_ 2 aW_ rfl rfl rfl rfl rfl rfl (d_ (b_ rfl (u_ ?_)))
     have hfin : (ff_ (cR_ p) (Stp.rule s) (Pc.mk 0 [] [] [] [] [] [] 0 0 0) (Stp.fact s) (List.getD (bO_ fs (Stp.frm s)) 0 zfc) (List.getD (bO_ fs (Stp.frm s)) 1 zfc)) = df_ p fs s := by have z := gR_ hru wf hPm hpb; rw [← hpl8] at z; exact z.symm
     exact mJ_ (F := _) ⟨(ff_ (cR_ p) (Stp.rule s) (Pc.mk 0 [] [] [] [] [] [] 0 0 0) (Stp.fact s) (List.getD (bO_ fs (Stp.frm s)) 0 zfc) (List.getD (bO_ fs (Stp.frm s)) 1 zfc)), hfin⟩ (ni_ b2) (ns_ b2) (fun a v h1 h2 => mM_ 2 Tryz.results32 be_ rfl rfl a v h1 h2) B_ (fun _ _ _ => trivial)
end Go.Proofs.YtaffcjgphlhppaaGreatDoor
namespace Go.Proofs.YtaffcjgphlhppaaGreatDoor
open Go Go.Sx Go.Proofs
attribute [local irreducible] Code.wp wpList wpAnyH
open Go.Vs
theorem valid9 {x : Pc} (h : x.valid = true) (hk : x.kind = 9) : -1099511627776 ≤ x.lo ∧ x.lo ≤ x.hi ∧ x.hi ≤ 1099511627776 := by
  unfold Pc.valid at h
  split at h
  · simp at h
  rename_i h1
  split at h
  · simp at h
  rename_i h2
  rw [hk] at h2
  have : (nus 9).numbers = true := by decide
  simp only [this, true_and] at h2
  omega
theorem eC_ {p : List Pc} (h : ci_ p = 0) : p.length ≤ 16384 ∧ ∀ x ∈ p, x.valid = true := by
  unfold ci_ at h
  split at h
  · simp at h
  · split at h
    · rename_i h2; exact ⟨by omega, fun x hx => List.all_eq_true.1 h2 x hx⟩
    · simp at h
theorem gA_ {p : List Pc} (h : ci_ p = 0) (q : Int) : ∀ k : Int, k = 14 → dN_ p q (dm_ k) → -1099511627776 ≤ (p.getD q.toNat zpc).lo ∧ (p.getD q.toNat zpc).lo ≤ (p.getD q.toNat zpc).hi ∧ (p.getD q.toNat zpc).hi ≤ 1099511627776 := fun k hk hq => by
  subst hk
  obtain ⟨h1, h2, h3⟩ := hq
  have hlt : q.toNat < p.length := by omega
  have e := List.getElem?_eq_getElem hlt
  rw [eR_ e] at h3 ⊢
  exact valid9 ((eC_ h).2 _ (List.getElem_mem hlt)) h3
theorem kI_ (p : List Pc) (pad : Option Addr) (pcap : Nat) (fs : List Fc) (fad : Option Addr) (fcap : Nat) (vb ab : Nat) (s : Stp) (q : List Str) (hkn : ∀ s, cR_ p s = true ↔ s ∈ q) (es : Array MapEntry) (ec : Nat) (hE : SetE str es q) (hc : ci_ p = 0) (hfl : fs.length ≤ 10000000) (hfr : s.frm.length ≤ 1000000) (hfs : ∀ x ∈ fs, x.sml) (hsf : s.fact.sml) : Tri Tryz.prog 32 #[zp_ vb 0, s.val] [(vb, .cells (cC_ (.slice pad p.length pcap) ab (.slice fad fs.length fcap)).toArray 83 (0, 0)), (ab, .map es ec)] [aR_ pad (List.flatMap Pc.cells p), aR_ fad (List.flatMap Fc.cells fs), aR_ (Stp.ad s) (List.flatMap cV_ (Stp.frm s))] (fun y : {y : Bool // y = df_ p fs s} => .bool y.1) (fun _ => [(vb, .cells (cC_ (.slice pad p.length pcap) ab (.slice fad fs.length fcap)).toArray 83 (0, 0)), (ab, .map es ec)]) (fun _ => []) := by
  have T := jr_ (Γ0 := [aR_ pad (List.flatMap Pc.cells p), aR_ fad (List.flatMap Fc.cells fs), aR_ (Stp.ad s) (List.flatMap cV_ (Stp.frm s))]) [(vb, .cells (cC_ (.slice pad p.length pcap) ab (.slice fad fs.length fcap)).toArray 83 (0, 0)), (ab, .map es ec)] (iy_ p pad pcap fs fad fcap vb ab s q hkn es ec hE (by have := (eC_ hc).1; omega) (gA_ hc s.piece) hfl hfr hfs hsf) (fun v hB hv => ⟨hB _ List.mem_cons_self, hB _ (List.mem_cons_of_mem _ List.mem_cons_self), hv.1, hv.2.1, hv.2.2.1, trivial⟩)
  simpa using T
theorem go_ {e sz n : Nat} {sv : Value} {xs : List Value} {Hr : Hp} (h : br_ e sz sv n xs Hr) : ∃ ad cap, sv = .slice ad n cap ∧ ∀ v : Vw, (∀ p ∈ Hr, v.im p.1 ∧ v.w.heap[p.1]? = some p.2) → bD_ v ad xs := by
  have h0 := h
  obtain ⟨hl, ⟨rfl, rfl, rfl⟩ | ⟨g, cap, cur, rfl, rfl, h3, h4, h5, h6⟩⟩ := h0
  · exact ⟨none, 0, rfl, fun v _ => .inl (List.eq_nil_of_length_eq_zero (by simpa using hl))⟩
  · refine ⟨some ⟨g, 0, none⟩, cap, rfl, fun v hv => ?_⟩
    obtain ⟨ad, cp, e, _, _, _, hr⟩ := lx_ h hv
    simp only [Value.slice.injEq] at e
    rw [e.1]; exact hr
theorem kJ_ (p : List Pc) (pad : Option Addr) (pcap : Nat) (fs : List Fc) (sv : Value) (HF : Hp) (hr : br_ 24 6 sv fs.length (List.flatMap Fc.cells fs) HF) (vb ab : Nat) (s : Stp) (q : List Str) (hkn : ∀ s, cR_ p s = true ↔ s ∈ q) (es : Array MapEntry) (ec : Nat) (hE : SetE str es q) (hc : ci_ p = 0) (hfl : fs.length ≤ 10000000) (hfr : s.frm.length ≤ 1000000) (hfs : ∀ x ∈ fs, x.sml) (hsf : s.fact.sml) : Tri Tryz.prog 32 #[zp_ vb 0, s.val] ((vb, .cells (cC_ (.slice pad p.length pcap) ab sv).toArray 83 (0, 0)) :: (ab, .map es ec) :: HF) [aR_ pad (List.flatMap Pc.cells p), aR_ (Stp.ad s) (List.flatMap cV_ (Stp.frm s))] (fun y : {y : Bool // y = df_ p fs s} => .bool y.1) (fun _ => (vb, .cells (cC_ (.slice pad p.length pcap) ab sv).toArray 83 (0, 0)) :: (ab, .map es ec) :: HF) (fun _ => []) := by
  obtain ⟨fad, fcap, rfl, hrow⟩ := go_ hr
  have T := jr_ (Γ0 := [aR_ pad (List.flatMap Pc.cells p), aR_ (Stp.ad s) (List.flatMap cV_ (Stp.frm s))]) ((vb, .cells (cC_ (.slice pad p.length pcap) ab (.slice fad fs.length fcap)).toArray 83 (0, 0)) :: (ab, .map es ec) :: HF) (iy_ p pad pcap fs fad fcap vb ab s q hkn es ec hE (by have := (eC_ hc).1; omega) (gA_ hc s.piece) hfl hfr hfs hsf) (fun v hB hv => ⟨hB _ List.mem_cons_self, hB _ (List.mem_cons_of_mem _ List.mem_cons_self), hv.1, hrow v (fun x hx => hB x (List.mem_cons_of_mem _ (List.mem_cons_of_mem _ hx))), hv.2.1, trivial⟩)
  simpa using T
theorem iQ_ {P : Program} {N : Nf} {v0 : Vw} {H0 : Hp} {R : Exit → Act → World → Prop} {K : List Kt} {fr : Fr} {H F : Hp} {Γ : List Fct} {ops : Array Oper} {l : List Oper} {ty : TypeId} {ps : String} {af : Array Edge} {t : TypeId} {x y : Operand} {vb ab : Nat} {pv fv : Value} {T : TypeId} {ad : Option Addr} {n c : Nat} (hs : ∀ w, (sizeOf t).run P w = .ok 1 w)
    (hx : Fr.ev fr x = some (zp_ vb 2)) (hy : Fr.ev fr y = some (.slice ad n c)) (hp : H.Perm ([(vb, .cells (cC_ pv ab fv).toArray T (0, 0))] ++ F)) (ho : (Value.slice ad n c).oneCell' = true)
    (hk : Ops P R N v0 H0 ops l K fr ((vb, .cells (cC_ pv ab (.slice ad n c)).toArray T (0, 0)) :: F) Γ) : Ops P R N v0 H0 ops (⟨none, .store t x y, ty, ps, af, none⟩ :: l) K fr H Γ := by
  refine aZ_ hp (X_ 0 hs hx hy rfl rfl (by rfl) (by simp only [Value.cells, List.all_cons, List.all_nil, ho, Bool.and_true]) ?_)
  simp only [List.cons_append, List.nil_append, List.set_cons_zero]
  exact hk
def gU_ (p : List Pc) (l : List Stp) : Prop := ∀ (j : Nat) (s : Stp), l[j]? = some s → df_ p (fcs (l.take j)) s = true
def gk_ (p : List Pc) (f : Fc) (l : List Stp) (e : Int) : Prop :=
  (ci_ p ≠ 0 ∧ e = ci_ p) ∨ (ci_ p = 0 ∧ 65536 < l.length ∧ e = 2) ∨
  (ci_ p = 0 ∧ l.length ≤ 65536 ∧ ((gU_ p l ∧ (∃ t, l[l.length - 1]? = some t ∧ t.fact = f) ∧ e = 0) ∨ (¬ (gU_ p l ∧ ∃ t, l[l.length - 1]? = some t ∧ t.fact = f) ∧ e = 120)))
theorem iA_ {p : List Pc} {f : Fc} {l : List Stp} {e e' : Int} (h : gk_ p f l e) (h' : gk_ p f l e') : e = e' := by
  rcases h with ⟨a, rfl⟩ | ⟨a, b, rfl⟩ | ⟨a, b, ⟨c1, c2, rfl⟩ | ⟨c, rfl⟩⟩ <;> rcases h' with ⟨a', rfl⟩ | ⟨a', b', rfl⟩ | ⟨a', b', ⟨d1, d2, rfl⟩ | ⟨d, rfl⟩⟩ <;> first | rfl | (exfalso; omega) | exact absurd ⟨c1, c2⟩ d | exact absurd ⟨d1, d2⟩ c
theorem ma_ {p : List Pc} {f : Fc} {l : List Stp} {j : Nat} {s : Stp} (hc : ci_ p = 0) (hl : l.length ≤ 65536) (hs : l[j]? = some s) (hf : df_ p (fcs (l.take j)) s = false) : gk_ p f l 120 :=
  .inr (.inr ⟨hc, hl, .inr ⟨fun q => by have := q.1 j s hs; rw [hf] at this; exact absurd this (by simp), rfl⟩⟩)
theorem kd_ {l : List Stp} {i : Nat} {s : Stp} (hs : l[i]? = some s) : fcs (l.take (i + 1)) = fcs (l.take i) ++ [s.fact] := by
  rw [List.take_add_one, hs, Option.toList_some, fG_]; rfl
theorem oN_ {l : List Stp} {i : Nat} (h : ∀ s ∈ l, s.fact.sml) : ∀ x ∈ fcs (l.take i), x.sml := fun x hx => by
  obtain ⟨s, hs, rfl⟩ := List.mem_map.1 hx
  exact h s (List.mem_of_mem_take hs)
theorem step_c (p : List Pc) (pad : Option Addr) (pcap : Nat) (fs : List Fc) (fad : Option Addr) (fcap : Nat) (s : Stp) (hpl : p.length ≤ 10000000) (hsm : ∀ x ∈ p, x.sm) (hfl : fs.length ≤ 10000000) (hfr : s.frm.length ≤ 1000000) (hfs : ∀ x ∈ fs, x.sml) (hsf : s.fact.sml) : Tri Tryz.prog 71 #[.slice pad (List.length p) pcap, .slice fad (List.length fs) fcap, Stp.val s] [] [aR_ pad (List.flatMap Pc.cells p), aR_ fad (List.flatMap Fc.cells fs), aR_ (Stp.ad s) (List.flatMap cV_ (Stp.frm s)), iI_] (fun y : {e : Int // ci_ p ≠ 0 ∧ e = ci_ p ∨ ci_ p = 0 ∧ e = if df_ p fs s = true then 0 else 120} => .int .i64 y.1) (fun _ => []) (fun _ => []) := by
  refine T_ Tryz.func71 rfl rfl Tryz.ntmps71 rfl fun v0 => ?_
  refine g_ (c_ (aL_ rfl rfl fun b1 => ?_))
  refine a_ (e_ rfl) rfl (d_ (b_ rfl (g_ (g_ (c_ (a_ (f_ rfl) rfl (P_ (jf_ p pad pcap (by omega) hsm) rfl B_ (fun v _ h => by exact ⟨h.1, h.2.2.2.1, trivial⟩) rfl fun _ => ?_)))))))
  refine a_ (e_ rfl) rfl (d_ (b_ rfl (g_ (c_ (a_ (f_ rfl) rfl (E_ (bw_ rfl rfl) rfl fun r1 hr1 => ?_))))))
  refine d_ (b_ rfl ?_)
  cases r1
  · skip
    replace hr1 := bt_ hr1
    have hc : ci_ p = 0 := by omega
    refine y_ rfl (L_ (b_ rfl (g_ (c_ (a_ (f_ rfl) rfl (P_ (jK_ p pad pcap (by have := (eC_ hc).1; omega)) rfl B_ (fun v _ h => by exact ⟨h.1, trivial⟩) rfl fun ⟨⟨vb, ab, es, ec, q⟩, hVk⟩ => ?_))))))
    dsimp only
    obtain ⟨hE, hkn⟩ := hVk; dsimp only at hE hkn
    refine a_ (e_ rfl) rfl (d_ (b_ rfl (g_ (c_ (a_ (f_ rfl) rfl (a_ (f_ rfl) rfl (a_ (aY_ rfl) rfl (a_ (h_ ba_ rfl rfl rfl aF_) rfl (iQ_ aF_ rfl rfl D_ (by rfl) ?_)))))))))
    refine d_ (b_ rfl (g_ (g_ (c_ (a_ (f_ rfl) rfl (a_ (O_ 2 cx_ as_ rfl rfl rfl) rfl (P_ (kI_ p pad pcap fs fad fcap vb ab s q hkn es ec hE hc hfl hfr hfs hsf) rfl (N_ D_ D_) (fun v _ h => by exact ⟨h.1, h.2.1, h.2.2.1, trivial⟩) rfl fun ⟨rc, hrc⟩ => ?_)))))))
    dsimp only
    refine a_ (bo_ rfl) rfl (d_ (b_ rfl ?_))
    cases rc
    · skip
      refine w_ rfl (g_ (c_ (a_ (e_ rfl) rfl (d_ (b_ rfl (u_ ?_))))))
      exact Y_ Tryz.results71 ⟨120, .inr ⟨hc, by rw [if_neg (by simp [*])]⟩⟩ rfl B_ (fun _ _ _ => trivial)
    · skip
      refine y_ rfl (L_ (b_ rfl (g_ (c_ (a_ (e_ rfl) rfl (d_ (b_ rfl (u_ ?_))))))))
      exact Y_ Tryz.results71 ⟨0, .inr ⟨hc, by rw [if_pos (by simp [*])]⟩⟩ rfl B_ (fun _ _ _ => trivial)
  · skip
    replace hr1 := bs_ hr1
    refine w_ rfl (g_ (c_ (a_ (f_ rfl) rfl (a_ (e_ rfl) rfl (d_ (b_ rfl (u_ ?_)))))))
    exact Y_ Tryz.results71 ⟨(ci_ p), .inl ⟨by omega, rfl⟩⟩ rfl B_ (fun _ _ _ => trivial)
theorem dO_ (p : List Pc) (pad : Option Addr) (pcap : Nat) (f : Fc) (l : List Stp) (ad : Option Addr) (cap : Nat) (hpl : p.length ≤ 10000000) (hsm : ∀ x ∈ p, x.sm) (hll : l.length ≤ 10000000) (hfr : ∀ s ∈ l, s.frm.length ≤ 1000000) (hsf : ∀ s ∈ l, s.fact.sml) : Tri Tryz.prog 12 #[.slice pad (List.length p) pcap, Fc.val f, .agg #[.slice ad (List.length l) cap]] [] [aR_ pad (List.flatMap Pc.cells p), aR_ ad (List.flatMap Stp.cells l), cD_ l, iI_] (fun y : {e : Int // gk_ p f l e} => .int .i64 y.1) (fun _ => []) (fun _ => []) := by
 refine T_ Tryz.func12 rfl rfl Tryz.ntmps12 rfl fun v0 => ?_
 refine g_ (c_ (aL_ rfl rfl fun b1 => ?_))
 refine aL_ rfl rfl fun b2 => ?_
 refine a_ (e_ rfl) rfl (d_ (b_ rfl (g_ (g_ (c_ (a_ (f_ rfl) rfl (P_ (jf_ p pad pcap (by omega) hsm) rfl B_ (fun v _ h => by exact ⟨h.1, h.2.2.2.1, trivial⟩) rfl fun _ => ?_)))))))
 refine a_ (e_ rfl) rfl (d_ (b_ rfl (g_ (c_ (a_ (f_ rfl) rfl (E_ (bw_ rfl rfl) rfl fun r1 hr1 => ?_))))))
 refine d_ (b_ rfl ?_)
 cases r1
 ·
  replace hr1 := bt_ hr1
  have hc : ci_ p = 0 := by omega
  refine y_ rfl (L_ (b_ rfl (g_ (g_ (c_ (a_ (h_ aa_ rfl rfl rfl an_) rfl (a_ (m_ 0 aV_ rfl rfl rfl) rfl (a_ (aB_ ab_ rfl) rfl (E_ (bx_ rfl rfl) rfl fun r2 hr2 => ?_)))))))))
  refine d_ (b_ rfl ?_)
  cases r2
  ·
   replace hr2 := of_decide_eq_false hr2
   have hl6 : List.length l ≤ 65536 := by omega
   refine y_ rfl (L_ (b_ rfl (g_ (c_ (a_ (f_ rfl) rfl (P_ (jK_ p pad pcap (by have := (eC_ hc).1; omega)) rfl B_ (fun v _ h => by exact ⟨h.1, trivial⟩) rfl fun ⟨⟨vb, ab, es, ec, q⟩, hVk⟩ => ?_))))))
   dsimp only
   obtain ⟨hE, hkn⟩ := hVk; dsimp only at hE hkn
   refine a_ (e_ rfl) rfl (d_ (b_ rfl (g_ (g_ (c_ (a_ (h_ aa_ rfl rfl rfl an_) rfl (a_ (m_ 2 aV_ rfl rfl rfl) rfl (a_ (aB_ ab_ rfl) rfl (a_ (f_ rfl) rfl ?_)))))))))
   refine d_ (b_ rfl (ae_ ?_))
   refine bz_ (ι := {y : Nat × Value × Hp // y.1 ≤ List.length l ∧ (∀ (j : Nat) (s9 : Stp), l[j]? = some s9 → j < y.1 → df_ p (fcs (List.take j l)) s9 = true) ∧ br_ 24 6 y.2.1 (List.length (fcs (List.take y.1 l))) (List.flatMap Fc.cells (fcs (List.take y.1 l))) y.2.2}) (fun y => [(4, zp_ b1 0), (5, zp_ b2 0), (8, zp_ vb 0), (24, .slice ad (List.length l) cap), (25, .int .i64 (List.length l : Int)), (26, .int .i64 (y.1.1 : Int))]) (fun y => ((b1, .cells (Fc.cells f).toArray 24 (0, 0)) :: ((b2, .cells #[.slice ad (List.length l) cap] 27 (0, 0)) :: ((vb, .cells (cC_ (.slice pad p.length pcap) ab y.1.2.1).toArray 83 (0, 0)) :: ((ab, .map es ec) :: y.1.2.2))))) (fun y => [aR_ pad (List.flatMap Pc.cells p), aR_ ad (List.flatMap Stp.cells l), cD_ l, iI_]) (fun y => List.length l - y.1.1) ⟨((0 : Nat), (.slice none 0 0), []), by simp, fun j s9 _ h => by omega, (br_.nil 24 6)⟩ ⟨rfl, rfl, rfl, rfl, rfl, rfl, trivial⟩ (N_ (H_ (H_ (H_ D_))) (N_ (H_ (H_ D_)) (N_ D_ D_))) (fun _ _ h => h) ?_
   rintro ⟨⟨i, sv_F, H_F⟩, hi, hSt, hr_F⟩
   dsimp only at hi hSt hr_F ⊢
   refine g_ (c_ (E_ (au_ rfl rfl) rfl fun r3 hr3 => ?_))
   refine d_ (b_ rfl (g_ ?_))
   cases r3
   ·
    replace hr3 := of_decide_eq_false hr3
    refine y_ rfl (bi_ rfl (b_ rfl (g_ (g_ (c_ (a_ (h_ aa_ rfl rfl rfl an_) rfl (a_ (m_ 1 aV_ rfl rfl rfl) rfl (a_ (aB_ ab_ rfl) rfl (a_ (e_ rfl) rfl ?_)))))))))
    refine d_ (b_ rfl (g_ ?_))
    refine aI_ (by kernel_rfl) ?_
    refine K_ 10 [0, 1, 2] (by kernel_rfl) (fun _ a b => ⟨a, b⟩) (j_ rfl (f_ rfl) rfl ?_)
    refine bk_ rfl (aC_ rfl rfl) rfl fun r4 hr4 => ?_
    refine j_ rfl (f_ rfl) rfl (J_ ?_)
    cases r4
    ·
     replace hr4 := ne_of_beq_false hr4
     have hlz : List.length l - 1 < List.length l := by omega
     obtain ⟨xl, hxl⟩ : ∃ e0, l[List.length l - 1]? = some e0 := ⟨_, List.getElem?_eq_getElem hlz⟩
     have hmxl : xl ∈ l := List.mem_of_getElem? hxl
     refine K_ 0 [3, 4, 5, 6, 7, 8, 9, 10, 11, 12] (by kernel_rfl) (fun _ a b => ⟨a, b⟩) (p_ rfl rfl rfl (h_ aa_ rfl rfl rfl an_) rfl (p_ rfl rfl rfl (m_ 1 aV_ rfl rfl rfl) rfl (p_ rfl rfl rfl (f_ rfl) rfl (p_ rfl rfl rfl (ac_ rfl rfl rfl (aK_ (by omega) (by omega))) rfl (p_ rfl rfl rfl (ah_ ab_ as_ rfl rfl (fun v _ h => aN_ (n := 9) Stp.cells_len (by decide) (by exact h.2.1) (show l[((List.length l : Int) - 1).toNat]? = some xl by rw [show ((List.length l : Int) - 1).toNat = List.length l - 1 by omega]; exact hxl)) (by omega) (by first | omega | (simp; done))) rfl (p_ rfl rfl rfl (bL_ Q_ rfl rfl rfl k_) rfl (p_ rfl rfl rfl (aM_ (ad := ad) (us := Fc.cells (Stp.fact xl)) R_ k_ rfl (fun v _ h => by exact h.2.1) rfl (hX_ 1 (ak_ Stp.cells_len (show l[((List.length l : Int) - 1).toNat]? = some xl by rw [show ((List.length l : Int) - 1).toNat = List.length l - 1 by omega]; exact hxl)) (Stp.fact_cells xl))) rfl (p_ rfl rfl rfl (O_ 0 R_ k_ rfl rfl rfl) rfl ?_))))))))
     refine ar_ rfl rfl rfl (hR_ (p := (Stp.fact xl)) (q := f) rfl rfl) rfl fun r5 hr5 => ?_
     refine j_ rfl (t_ rfl rfl) rfl (J_ (S_ (by kernel_rfl) (b_ rfl ?_)))
     cases r5
     ·
      replace hr5 := of_decide_eq_false hr5
      refine y_ rfl (L_ (b_ rfl (g_ (c_ (a_ (e_ rfl) rfl (d_ (b_ rfl (u_ ?_))))))))
      exact Y_ he_ ⟨0, .inr (.inr ⟨hc, hl6, .inl ⟨fun j s9 hj => hSt j s9 hj (by have := (List.getElem?_eq_some_iff.1 hj).1; omega), ⟨xl, hxl, by first | assumption | exact Decidable.not_not.1 (by assumption)⟩, rfl⟩⟩)⟩ rfl B_ (fun _ _ _ => trivial)
     ·
      replace hr5 := of_decide_eq_true hr5
      refine w_ rfl (g_ (c_ (a_ (e_ rfl) rfl (d_ (b_ rfl (u_ ?_))))))
      exact Y_ he_ ⟨120, .inr (.inr ⟨hc, hl6, .inr ⟨fun z => by obtain ⟨_, t9, h9, h8⟩ := z; rw [hxl] at h9; obtain rfl := Option.some.inj h9; exact absurd h8 (by assumption), rfl⟩⟩)⟩ rfl B_ (fun _ _ _ => trivial)
    ·
     replace hr4 := eq_of_beq hr4
     refine K_ 0 [3, 4, 5, 6, 7, 8, 9, 10, 11, 12] (by kernel_rfl) (fun _ a b => ⟨a, b⟩) (v_ rfl rfl rfl rfl rfl (v_ rfl rfl rfl rfl rfl (v_ rfl rfl rfl rfl rfl (v_ rfl rfl rfl rfl rfl (v_ rfl rfl rfl rfl rfl (v_ rfl rfl rfl rfl rfl (v_ rfl rfl rfl rfl rfl (v_ rfl rfl rfl rfl rfl (v_ rfl rfl rfl rfl rfl ?_)))))))))
     refine j_ rfl (z_ rfl rfl) rfl (J_ (S_ (by kernel_rfl) (b_ rfl (w_ rfl (g_ (c_ (a_ (e_ rfl) rfl (d_ (b_ rfl ?_)))))))))
     refine u_ ?_
     exact Y_ he_ ⟨120, .inr (.inr ⟨hc, hl6, .inr ⟨fun z => by obtain ⟨_, t9, h9, h8⟩ := z; have := (List.getElem?_eq_some_iff.1 h9).1; omega, rfl⟩⟩)⟩ rfl B_ (fun _ _ _ => trivial)
   ·
    replace hr3 := of_decide_eq_true hr3
    have hlx1 : i < List.length l := by omega
    obtain ⟨x1, hx1⟩ : ∃ e0, l[i]? = some e0 := ⟨_, List.getElem?_eq_getElem hlx1⟩
    have hmx1 : x1 ∈ l := List.mem_of_getElem? hx1
    refine w_ rfl (L_ (b_ rfl (g_ (ae_ (g_ (c_ (a_ (ah_ ab_ as_ rfl rfl (fun v _ h => aN_ (n := 9) Stp.cells_len (by decide) (by exact h.2.1) hx1) (by omega) (by first | omega | (simp; done))) rfl (a_ (aM_ (ad := ad) (us := Stp.cells x1) cx_ as_ rfl (fun v _ h => by exact h.2.1) (Stp.cells_len _) (ak_ Stp.cells_len hx1)) rfl (ad_ bc_ rfl fun b3 => ?_)))))))))
    refine X_ 0 as_ rfl rfl rfl rfl rfl rfl (d_ (b_ rfl (g_ (g_ (c_ (a_ (f_ rfl) rfl (a_ (O_ 0 cx_ as_ rfl rfl rfl) rfl (P_ (kJ_ p pad pcap (fcs (List.take i l)) sv_F H_F hr_F vb ab x1 q hkn es ec hE hc (by rw [dz_, List.length_take]; omega) (hfr x1 hmx1) (oN_ hsf) (hsf x1 hmx1)) rfl (N_ (H_ (H_ (H_ D_))) (N_ (H_ (H_ (H_ D_))) (H_ (H_ aQ_)))) (fun v _ h => by exact ⟨h.1, (h.2.2.1 x1 hmx1), trivial⟩) rfl fun ⟨rc, hrc⟩ => ?_))))))))
    dsimp only
    simp only [List.cons_append, List.append_assoc, List.append_nil]
    refine a_ (bo_ rfl) rfl (d_ (b_ rfl ?_))
    cases rc
    ·
     refine w_ rfl (aZ_ (dJ_ D_ (dJ_ D_ (dJ_ (bP_ D_) (dJ_ (bP_ D_) (hj_ cy_))))) (g_ (c_ (a_ (e_ rfl) rfl (d_ (b_ rfl (u_ ?_)))))))
     exact Y_ he_ ⟨120, ma_ hc hl6 hx1 hrc.symm⟩ rfl B_ (fun _ _ _ => trivial)
    ·
     refine y_ rfl (L_ (b_ rfl (aZ_ (dJ_ D_ (dJ_ D_ (dJ_ (bP_ D_) (dJ_ (bP_ D_) (hj_ cy_))))) ?_)))
     refine cq_ ((ab, .map es ec) :: ((b3, .cells #[.int .i64 (Stp.rule x1), .int .i64 (Fc.kind (Stp.fact x1)), str (Fc.a (Stp.fact x1)), str (Fc.b (Stp.fact x1)), str (Fc.r (Stp.fact x1)), .int .i64 (Fc.lo (Stp.fact x1)), .int .i64 (Fc.hi (Stp.fact x1)), .int .i64 (Stp.piece x1), .slice (Stp.ad x1) (List.length (Stp.frm x1)) (Stp.cap x1)] 36 (0, 0)) :: ((b1, .cells (Fc.cells f).toArray 24 (0, 0)) :: ((b2, .cells #[.slice ad (List.length l) cap] 27 (0, 0)) :: [])))) (by kernel_rfl) ?_
     refine K_ 6 [0, 1, 2, 3, 5, 6] (by kernel_rfl) (fun _ a b => ⟨Vw.sat.sub (a.perm (N_ (H_ D_) (N_ (H_ D_) (N_ (H_ D_) (H_ D_))))), b⟩) (j_ rfl (f_ rfl) rfl (j_ rfl (f_ rfl) rfl (j_ rfl (aY_ rfl) rfl (j_ rfl (h_ ba_ rfl rfl rfl aF_) rfl (j_ rfl (h_ Q_ rfl rfl rfl k_) rfl (j_ rfl (O_ 1 R_ k_ rfl rfl rfl) rfl (J_ ?_)))))))
     refine bT_ 4 7 rfl rfl (by kernel_rfl) ?_ ?_
     ·
      refine a_ (m_ 0 bb_ rfl rfl rfl) rfl (d_ (q_ rfl (A_ (fun _ a b => ⟨Vw.sat.sub (a.perm (N_ (H_ D_) (N_ (H_ D_) (N_ (H_ D_) (H_ D_))))), b⟩) (I_ 7 rfl (by kernel_rfl) (aX_ ag_ k_ aS_ rfl rfl rfl rfl rfl rfl fun b4 => ?_)))))
      refine bC_ (List.flatMap Fc.cells [(Stp.fact x1)]) D_ rfl ?_
      refine d_ (q_ rfl (A_ (fun _ a b => ⟨Vw.sat.sub (a.perm (N_ (H_ D_) (N_ (H_ D_) (N_ (H_ D_) (H_ D_))))), b.2⟩) (I_ 8 rfl (by kernel_rfl) (dD_ (news := List.flatMap Fc.cells [(Stp.fact x1)]) kG_ hr_F rfl rfl (fun q => by cases q) (by simp) (H_ (H_ (H_ (H_ aQ_)))) (by rw [dH_ Fc.cells 6 Fc.cells_len]; rfl) (fun v _ h => by exact h.1) (fun u hu => bS_ Fc.cells_one hu) (by simp only [maxLen]; (first | omega | (rw [dz_, List.length_take]; omega) | (simp only [dz_, List.length_take]; omega))) (by (first | omega | (rw [dz_, List.length_take]; omega) | (simp only [dz_, List.length_take]; omega))) rfl fun sv1 Hr1 hr1 => ?_))))
      refine aZ_ List.perm_append_comm ?_
      have hq1 : br_ 24 6 sv1 (List.length ((fcs (List.take i l)) ++ [(Stp.fact x1)])) (List.flatMap Fc.cells ((fcs (List.take i l)) ++ [(Stp.fact x1)])) Hr1 := by rw [List.length_append, List.flatMap_append]; exact hr1
      refine d_ (q_ rfl (A_ (fun _ a b => ⟨Vw.sat.sub (a.perm (N_ (H_ D_) (N_ (H_ D_) (N_ (H_ D_) (H_ D_))))), b.2⟩) (K_ 1 [9, 10] (by kernel_rfl) (fun _ a b => ⟨Vw.sat.sub (a.perm (N_ (H_ D_) (N_ (H_ D_) (N_ (H_ D_) (H_ D_))))), b.2⟩) (j_ rfl (aY_ rfl) rfl (j_ rfl (h_ ba_ rfl rfl rfl aF_) rfl (J_ (I_ 11 rfl (by kernel_rfl) ?_)))))))
      obtain ⟨ad9, cp9, hsv9, _⟩ := go_ hq1
      refine iQ_ (ad := ad9) (n := List.length ((fcs (List.take i l)) ++ [(Stp.fact x1)])) (c := cp9) aF_ rfl (by rw [← hsv9]; rfl) D_ (by rw [← hsv9]; exact (er_ hq1).2) ?_
      rw [← hsv9]
      refine d_ (q_ rfl (A_ (fun _ a b => ⟨Vw.sat.sub (a.perm (N_ (H_ D_) (N_ (H_ D_) (N_ (H_ D_) (H_ D_))))), b.2⟩) (S_ (by kernel_rfl) (b_ rfl (c_ (a_ (ac_ rfl rfl rfl (aK_ (by omega) (by omega))) rfl (a_ (f_ rfl) rfl (d_ (q_ rfl ?_)))))))))
      exact aO_ ⟨(i + 1, sv1, Hr1), hlx1, (fun j s9 hj hji => by rcases Nat.lt_or_ge j i with z | z; exact hSt j s9 hj z; obtain rfl : j = i := (by omega); rw [hx1] at hj; obtain rfl := Option.some.inj hj; exact hrc.symm), (by have z := hq1; rw [← kd_ hx1] at z; exact z)⟩ (by dsimp only; omega) ⟨rfl, rfl, rfl, rfl, rfl, rfl, trivial⟩ (N_ (H_ (H_ (H_ D_))) (N_ (H_ (H_ (H_ D_))) (N_ D_ (N_ D_ aQ_)))) (fun _ _ h => h.2)
     ·
      refine aX_ ag_ k_ aS_ rfl rfl rfl rfl rfl rfl fun b5 => ?_
      refine bC_ (List.flatMap Fc.cells [(Stp.fact x1)]) D_ rfl ?_
      refine d_ (q_ rfl (A_ (fun _ a b => ⟨Vw.sat.sub (a.perm (N_ (H_ D_) (N_ (H_ D_) (N_ (H_ D_) (H_ D_))))), b.2⟩) (I_ 4 rfl (by kernel_rfl) (a_ (m_ 0 bb_ rfl rfl rfl) rfl (d_ (q_ rfl (A_ (fun _ a b => ⟨Vw.sat.sub (a.perm (N_ (H_ D_) (N_ (H_ D_) (N_ (H_ D_) (H_ D_))))), b.2⟩) (I_ 8 rfl (by kernel_rfl) (dD_ (news := List.flatMap Fc.cells [(Stp.fact x1)]) kG_ hr_F rfl rfl (fun q => by cases q) (by simp) (H_ (H_ (H_ (H_ aQ_)))) (by rw [dH_ Fc.cells 6 Fc.cells_len]; rfl) (fun v _ h => by exact h.1) (fun u hu => bS_ Fc.cells_one hu) (by simp only [maxLen]; (first | omega | (rw [dz_, List.length_take]; omega) | (simp only [dz_, List.length_take]; omega))) (by (first | omega | (rw [dz_, List.length_take]; omega) | (simp only [dz_, List.length_take]; omega))) rfl fun sv2 Hr2 hr2 => ?_)))))))))
      refine aZ_ List.perm_append_comm ?_
      have hq2 : br_ 24 6 sv2 (List.length ((fcs (List.take i l)) ++ [(Stp.fact x1)])) (List.flatMap Fc.cells ((fcs (List.take i l)) ++ [(Stp.fact x1)])) Hr2 := by rw [List.length_append, List.flatMap_append]; exact hr2
      refine d_ (q_ rfl (A_ (fun _ a b => ⟨Vw.sat.sub (a.perm (N_ (H_ D_) (N_ (H_ D_) (N_ (H_ D_) (H_ D_))))), b.2⟩) (K_ 1 [9, 10] (by kernel_rfl) (fun _ a b => ⟨Vw.sat.sub (a.perm (N_ (H_ D_) (N_ (H_ D_) (N_ (H_ D_) (H_ D_))))), b.2⟩) (j_ rfl (aY_ rfl) rfl (j_ rfl (h_ ba_ rfl rfl rfl aF_) rfl (J_ (I_ 11 rfl (by kernel_rfl) ?_)))))))
      obtain ⟨ad9, cp9, hsv9, _⟩ := go_ hq2
      refine iQ_ (ad := ad9) (n := List.length ((fcs (List.take i l)) ++ [(Stp.fact x1)])) (c := cp9) aF_ rfl (by rw [← hsv9]; rfl) D_ (by rw [← hsv9]; exact (er_ hq2).2) ?_
      rw [← hsv9]
      refine d_ (q_ rfl (A_ (fun _ a b => ⟨Vw.sat.sub (a.perm (N_ (H_ D_) (N_ (H_ D_) (N_ (H_ D_) (H_ D_))))), b.2⟩) (S_ (by kernel_rfl) (b_ rfl (c_ (a_ (ac_ rfl rfl rfl (aK_ (by omega) (by omega))) rfl (a_ (f_ rfl) rfl (d_ (q_ rfl ?_)))))))))
      exact aO_ ⟨(i + 1, sv2, Hr2), hlx1, (fun j s9 hj hji => by rcases Nat.lt_or_ge j i with z | z; exact hSt j s9 hj z; obtain rfl : j = i := (by omega); rw [hx1] at hj; obtain rfl := Option.some.inj hj; exact hrc.symm), (by have z := hq2; rw [← kd_ hx1] at z; exact z)⟩ (by dsimp only; omega) ⟨rfl, rfl, rfl, rfl, rfl, rfl, trivial⟩ (N_ (H_ (H_ (H_ D_))) (N_ (H_ (H_ (H_ D_))) (N_ D_ (N_ D_ aQ_)))) (fun _ _ h => h.2)
  ·
   replace hr2 := of_decide_eq_true hr2
   refine w_ rfl (g_ (c_ (a_ (e_ rfl) rfl (d_ (b_ rfl (u_ ?_))))))
   exact Y_ he_ ⟨2, .inr (.inl ⟨by omega, by omega, rfl⟩)⟩ rfl B_ (fun _ _ _ => trivial)
 ·
  replace hr1 := bs_ hr1
  refine w_ rfl (g_ (c_ (a_ (f_ rfl) rfl (a_ (e_ rfl) rfl (d_ (b_ rfl (u_ ?_)))))))
  exact Y_ he_ ⟨(ci_ p), .inl ⟨by omega, rfl⟩⟩ rfl B_ (fun _ _ _ => trivial)
end Go.Proofs.YtaffcjgphlhppaaGreatDoor
namespace Go.Proofs.YtaffcjgphlhppaaGreatDoor
open Go Go.Sx Go.Proofs
attribute [local irreducible] Code.wp wpList wpAnyH
open Go.Vs
theorem do_ {s : Stp} (h : ¬ (0 ≤ s.rule ∧ s.rule ≤ 255 ∧ 0 ≤ s.fact.kind ∧ s.fact.kind ≤ 255 ∧ -1 ≤ s.piece ∧ s.piece ≤ 2147483646 ∧ s.frm.length ≤ 255 ∧ (∀ q ∈ s.frm, 0 ≤ q ∧ q ≤ 2147483647) ∧ s.fact.a.length ≤ 65535 ∧ s.fact.b.length ≤ 65535 ∧ s.fact.r.length ≤ 65535)) : false = ek_ s := by
  rw [eq_comm, Bool.eq_false_iff]
  exact fun q => h (ez_.1 q)
theorem lU_ {s : Stp} (h1 : 0 ≤ s.rule) (h2 : s.rule ≤ 255) (h3 : 0 ≤ s.fact.kind) (h4 : s.fact.kind ≤ 255) (h5 : -1 ≤ s.piece) (h6 : s.piece ≤ 2147483646) (h7 : s.frm.length ≤ 255) (h8 : ∀ q ∈ s.frm, 0 ≤ q ∧ q ≤ 2147483647) (h9 : s.fact.a.length ≤ 65535) (h10 : s.fact.b.length ≤ 65535) :
    ek_ s = decide ((s.fact.r.length : Int) ≤ 65535) := by
  rw [Bool.eq_iff_iff, ez_, decide_eq_true_eq]
  constructor
  · intro q; have := q.2.2.2.2.2.2.2.2.2.2; omega
  · intro q; exact ⟨h1, h2, h3, h4, h5, h6, h7, h8, h9, h10, by omega⟩
theorem oF_ (s : Stp) (hfr : s.frm.length ≤ 1000000) (hsf : s.fact.sml) : Tri Tryz.prog 36 #[Stp.val s] [] [aR_ (Stp.ad s) (List.flatMap cV_ (Stp.frm s))] (fun _ : Unit => .bool (ek_ s)) (fun _ => []) (fun _ => []) := by
 refine T_ Tryz.func36 rfl rfl Tryz.ntmps36 rfl fun v0 => ?_
 obtain ⟨hsa, hsb, hsr⟩ := hsf
 refine g_ (c_ (aL_ rfl rfl fun b1 => ?_))
 refine a_ (e_ rfl) rfl (d_ (b_ rfl (g_ (c_ (a_ (h_ Q_ rfl rfl rfl k_) rfl (a_ (O_ 0 R_ k_ rfl rfl rfl) rfl (ad_ aS_ rfl fun b2 => ?_)))))))
 refine X_ 0 k_ rfl rfl rfl rfl rfl rfl (d_ (b_ rfl (g_ (g_ (c_ (a_ (h_ Q_ rfl rfl rfl r_) rfl (a_ (m_ 1 C_ rfl rfl rfl) rfl (E_ (au_ rfl rfl) rfl fun r1 hr1 => ?_))))))))
 refine a_ (f_ rfl) rfl ?_
 cases r1
 ·
  replace hr1 := of_decide_eq_false hr1
  refine l_ rfl rfl (a_ (h_ Q_ rfl rfl rfl r_) rfl (l_ rfl rfl (a_ (m_ 1 C_ rfl rfl rfl) rfl (l_ rfl rfl (E_ (bx_ rfl rfl) rfl fun r2 hr2 => ?_)))))
  refine a_ (t_ rfl rfl) rfl (a_ (f_ rfl) rfl ?_)
  cases r2
  ·
   replace hr2 := of_decide_eq_false hr2
   refine l_ rfl rfl (a_ (h_ o_ rfl rfl rfl r_) rfl (l_ rfl rfl (a_ (m_ 0 C_ rfl rfl rfl) rfl (l_ rfl rfl (E_ (au_ rfl rfl) rfl fun r3 hr3 => ?_)))))
   refine a_ (t_ rfl rfl) rfl (a_ (f_ rfl) rfl ?_)
   cases r3
   ·
    replace hr3 := of_decide_eq_false hr3
    refine l_ rfl rfl (a_ (h_ o_ rfl rfl rfl r_) rfl (l_ rfl rfl (a_ (m_ 0 C_ rfl rfl rfl) rfl (l_ rfl rfl (E_ (bx_ rfl rfl) rfl fun r4 hr4 => ?_)))))
    refine a_ (t_ rfl rfl) rfl (a_ (f_ rfl) rfl ?_)
    cases r4
    ·
     replace hr4 := of_decide_eq_false hr4
     refine l_ rfl rfl (a_ (h_ Q_ rfl rfl rfl r_) rfl (l_ rfl rfl (a_ (m_ 1 C_ rfl rfl rfl) rfl (l_ rfl rfl (E_ (au_ rfl rfl) rfl fun r5 hr5 => ?_)))))
     refine a_ (t_ rfl rfl) rfl (a_ (f_ rfl) rfl ?_)
     cases r5
     ·
      replace hr5 := of_decide_eq_false hr5
      refine l_ rfl rfl (a_ (h_ Q_ rfl rfl rfl r_) rfl (l_ rfl rfl (a_ (m_ 1 C_ rfl rfl rfl) rfl (l_ rfl rfl (E_ (bx_ rfl rfl) rfl fun r6 hr6 => ?_)))))
      refine a_ (t_ rfl rfl) rfl (a_ (f_ rfl) rfl ?_)
      cases r6
      ·
       replace hr6 := of_decide_eq_false hr6
       refine l_ rfl rfl (a_ (h_ Q_ rfl rfl rfl bu_) rfl (l_ rfl rfl (a_ (m_ 1 cb_ rfl rfl rfl) rfl (l_ rfl rfl (a_ (aB_ az_ rfl) rfl (l_ rfl rfl (E_ (bx_ rfl rfl) rfl fun r7 hr7 => ?_)))))))
       refine a_ (t_ rfl rfl) rfl (d_ (b_ rfl ?_))
       cases r7
       ·
        replace hr7 := of_decide_eq_false hr7
        refine y_ rfl (L_ (b_ rfl (g_ (g_ (c_ (a_ (h_ Q_ rfl rfl rfl bu_) rfl (a_ (m_ 1 cb_ rfl rfl rfl) rfl (a_ (aB_ az_ rfl) rfl (a_ (f_ rfl) rfl ?_)))))))))
        refine d_ (b_ rfl (ae_ ?_))
        refine bz_ (ι := {y : Nat // y ≤ List.length (Stp.frm s) ∧ (∀ u ∈ List.take y (Stp.frm s), 0 ≤ u ∧ u ≤ 2147483647)}) (fun y => [(2, .bool false), (3, zp_ b2 0), (43, .slice (Stp.ad s) (List.length (Stp.frm s)) (Stp.cap s)), (44, .int .i64 (List.length (Stp.frm s) : Int)), (45, .int .i64 (y.1 : Int))]) (fun y => ((b2, .cells #[.int .i64 (Fc.kind (Stp.fact s)), str (Fc.a (Stp.fact s)), str (Fc.b (Stp.fact s)), str (Fc.r (Stp.fact s)), .int .i64 (Fc.lo (Stp.fact s)), .int .i64 (Fc.hi (Stp.fact s))] 24 (0, 0)) :: [])) (fun y => [aR_ (Stp.ad s) (List.flatMap cV_ (Stp.frm s))]) (fun y => List.length (Stp.frm s) - y.1) ⟨(0 : Nat), by simp, by simp⟩ ⟨rfl, rfl, rfl, rfl, rfl, trivial⟩ D_ (fun _ _ h => h) ?_
        rintro ⟨i, hi_i, hA⟩
        dsimp only at hi_i hA ⊢
        refine g_ (c_ (E_ (au_ rfl rfl) rfl fun r8 hr8 => ?_))
        refine d_ (b_ rfl (g_ ?_))
        cases r8
        ·
         replace hr8 := of_decide_eq_false hr8
         refine y_ rfl (bi_ rfl (b_ rfl (g_ (c_ (a_ (h_ o_ rfl rfl rfl x_) rfl (a_ (m_ 0 F_ rfl rfl rfl) rfl (a_ (bG_ W_ rfl) rfl (E_ (bX_ rfl rfl) rfl fun r9 hr9 => ?_))))))))
         refine a_ (f_ rfl) rfl ?_
         cases r9
         ·
          replace hr9 := of_decide_eq_false hr9
          refine n_ rfl rfl rfl rfl (n_ rfl rfl rfl rfl (n_ rfl rfl rfl rfl (n_ rfl rfl rfl rfl (a_ (t_ rfl rfl) rfl (a_ (f_ rfl) rfl (n_ rfl rfl rfl rfl (n_ rfl rfl rfl rfl (n_ rfl rfl rfl rfl (n_ rfl rfl rfl rfl ?_)))))))))
          refine a_ (t_ rfl rfl) rfl (a_ (e_ rfl) rfl (d_ (b_ rfl (u_ ?_))))
          exact Y_ cm_ () (s_ rfl (do_ fun q => by obtain ⟨q1, q2, q3, q4, q5, q6, q7, _, q8, q9, q10⟩ := q; omega)) B_ (fun _ _ _ => trivial)
         ·
          replace hr9 := of_decide_eq_true hr9
          refine l_ rfl rfl (a_ (h_ o_ rfl rfl rfl x_) rfl (l_ rfl rfl (a_ (m_ 0 F_ rfl rfl rfl) rfl (l_ rfl rfl (a_ (bG_ W_ rfl) rfl (l_ rfl rfl (E_ (bX_ rfl rfl) rfl fun r10 hr10 => ?_)))))))
          refine a_ (z_ rfl rfl) rfl (a_ (f_ rfl) rfl ?_)
          cases r10
          ·
           replace hr10 := of_decide_eq_false hr10
           refine n_ rfl rfl rfl rfl (n_ rfl rfl rfl rfl (n_ rfl rfl rfl rfl (n_ rfl rfl rfl rfl (a_ (t_ rfl rfl) rfl (a_ (e_ rfl) rfl (d_ (b_ rfl (u_ ?_))))))))
           exact Y_ cm_ () (s_ rfl (do_ fun q => by obtain ⟨q1, q2, q3, q4, q5, q6, q7, _, q8, q9, q10⟩ := q; omega)) B_ (fun _ _ _ => trivial)
          ·
           replace hr10 := of_decide_eq_true hr10
           refine l_ rfl rfl (a_ (h_ o_ rfl rfl rfl x_) rfl (l_ rfl rfl (a_ (m_ 0 F_ rfl rfl rfl) rfl (l_ rfl rfl (a_ (bG_ W_ rfl) rfl (l_ rfl rfl (E_ (bX_ rfl rfl) rfl fun r11 hr11 => ?_)))))))
           refine a_ (z_ rfl rfl) rfl (a_ (e_ rfl) rfl (d_ (b_ rfl (u_ ?_))))
           exact Y_ cm_ () (s_ rfl (hr11.symm.trans (lU_ (s := s) (by omega) (by omega) (by omega) (by omega) (by omega) (by omega) (by omega) (by have z := hA; rw [List.take_of_length_le (by omega)] at z; exact z) (by omega) (by omega)).symm)) B_ (fun _ _ _ => trivial)
        ·
         replace hr8 := of_decide_eq_true hr8
         have hlx1 : i < List.length (Stp.frm s) := by omega
         obtain ⟨x1, hx1⟩ : ∃ e0, (Stp.frm s)[i]? = some e0 := ⟨_, List.getElem?_eq_getElem hlx1⟩
         have hmx1 : x1 ∈ (Stp.frm s) := List.mem_of_getElem? hx1
         refine w_ rfl (L_ (b_ rfl (g_ (ae_ (g_ (c_ (a_ (ah_ az_ r_ rfl rfl (fun v _ h => aN_ (n := 1) cS_ (by decide) (by exact h.1) hx1) (by omega) (by first | omega | (simp; done))) rfl (a_ (bj_ (ad := (Stp.ad s)) C_ rfl (fun v _ h => by exact h.1) (ak_ cS_ hx1 0 _ rfl)) rfl (a_ (e_ rfl) rfl ?_)))))))))
         refine d_ (b_ rfl (g_ (c_ (a_ (f_ rfl) rfl (E_ (au_ rfl rfl) rfl fun r12 hr12 => ?_)))))
         refine a_ (f_ rfl) rfl ?_
         cases r12
         ·
          replace hr12 := of_decide_eq_false hr12
          refine l_ rfl rfl (a_ (f_ rfl) rfl (l_ rfl rfl (E_ (bx_ rfl rfl) rfl fun r13 hr13 => ?_)))
          refine a_ (t_ rfl rfl) rfl (d_ (b_ rfl ?_))
          cases r13
          ·
           replace hr13 := of_decide_eq_false hr13
           refine y_ rfl (L_ (b_ rfl (c_ (a_ (ac_ rfl rfl rfl (aK_ (by omega) (by omega))) rfl (a_ (f_ rfl) rfl (d_ (q_ rfl ?_)))))))
           exact aO_ ⟨i + 1, hlx1, fun u hu => by rw [List.take_add_one, hx1] at hu; rcases List.mem_append.1 hu with z | z; exact hA u z; simp only [Option.toList_some, List.mem_singleton] at z; subst z; constructor <;> omega⟩ (by dsimp only; omega) ⟨rfl, rfl, rfl, rfl, rfl, trivial⟩ D_ (fun _ _ h => h)
          ·
           replace hr13 := of_decide_eq_true hr13
           refine w_ rfl (g_ (c_ (a_ (e_ rfl) rfl (d_ (b_ rfl (u_ ?_))))))
           exact Y_ cm_ () (s_ rfl (do_ fun q => by have z := q.2.2.2.2.2.2.2.1 x1 hmx1; omega)) B_ (fun _ _ _ => trivial)
         ·
          replace hr12 := of_decide_eq_true hr12
          refine n_ rfl rfl rfl rfl (n_ rfl rfl rfl rfl (a_ (z_ rfl rfl) rfl (d_ (b_ rfl (w_ rfl (g_ (c_ (a_ (e_ rfl) rfl (d_ ?_)))))))))
          refine b_ rfl (u_ ?_)
          exact Y_ cm_ () (s_ rfl (do_ fun q => by have z := q.2.2.2.2.2.2.2.1 x1 hmx1; omega)) B_ (fun _ _ _ => trivial)
       ·
        replace hr7 := of_decide_eq_true hr7
        refine w_ rfl (g_ (c_ (a_ (e_ rfl) rfl (d_ (b_ rfl (u_ ?_))))))
        exact Y_ cm_ () (s_ rfl (do_ fun q => by obtain ⟨q1, q2, q3, q4, q5, q6, q7, _, q8, q9, q10⟩ := q; omega)) B_ (fun _ _ _ => trivial)
      ·
       replace hr6 := of_decide_eq_true hr6
       refine n_ rfl rfl rfl rfl (n_ rfl rfl rfl rfl (n_ rfl rfl rfl rfl (n_ rfl rfl rfl rfl (a_ (z_ rfl rfl) rfl (d_ (b_ rfl (w_ rfl (g_ (c_ ?_)))))))))
       refine a_ (e_ rfl) rfl (d_ (b_ rfl (u_ ?_)))
       exact Y_ cm_ () (s_ rfl (do_ fun q => by obtain ⟨q1, q2, q3, q4, q5, q6, q7, _, q8, q9, q10⟩ := q; omega)) B_ (fun _ _ _ => trivial)
     ·
      replace hr5 := of_decide_eq_true hr5
      refine n_ rfl rfl rfl rfl (n_ rfl rfl rfl rfl (n_ rfl rfl rfl rfl (a_ (z_ rfl rfl) rfl (a_ (f_ rfl) rfl (n_ rfl rfl rfl rfl (n_ rfl rfl rfl rfl (n_ rfl rfl rfl rfl (n_ rfl rfl rfl rfl (a_ (z_ rfl rfl) rfl ?_)))))))))
      refine d_ (b_ rfl (w_ rfl (g_ (c_ (a_ (e_ rfl) rfl (d_ (b_ rfl (u_ ?_))))))))
      exact Y_ cm_ () (s_ rfl (do_ fun q => by obtain ⟨q1, q2, q3, q4, q5, q6, q7, _, q8, q9, q10⟩ := q; omega)) B_ (fun _ _ _ => trivial)
    ·
     replace hr4 := of_decide_eq_true hr4
     refine n_ rfl rfl rfl rfl (n_ rfl rfl rfl rfl (n_ rfl rfl rfl rfl (a_ (z_ rfl rfl) rfl (a_ (f_ rfl) rfl (n_ rfl rfl rfl rfl (n_ rfl rfl rfl rfl (n_ rfl rfl rfl rfl (a_ (z_ rfl rfl) rfl (a_ (f_ rfl) rfl ?_)))))))))
     refine n_ rfl rfl rfl rfl (n_ rfl rfl rfl rfl (n_ rfl rfl rfl rfl (n_ rfl rfl rfl rfl (a_ (z_ rfl rfl) rfl (d_ (b_ rfl (w_ rfl (g_ (c_ ?_)))))))))
     refine a_ (e_ rfl) rfl (d_ (b_ rfl (u_ ?_)))
     exact Y_ cm_ () (s_ rfl (do_ fun q => by obtain ⟨q1, q2, q3, q4, q5, q6, q7, _, q8, q9, q10⟩ := q; omega)) B_ (fun _ _ _ => trivial)
   ·
    replace hr3 := of_decide_eq_true hr3
    refine n_ rfl rfl rfl rfl (n_ rfl rfl rfl rfl (n_ rfl rfl rfl rfl (a_ (z_ rfl rfl) rfl (a_ (f_ rfl) rfl (n_ rfl rfl rfl rfl (n_ rfl rfl rfl rfl (n_ rfl rfl rfl rfl (a_ (z_ rfl rfl) rfl (a_ (f_ rfl) rfl ?_)))))))))
    refine n_ rfl rfl rfl rfl (n_ rfl rfl rfl rfl (n_ rfl rfl rfl rfl (a_ (z_ rfl rfl) rfl (a_ (f_ rfl) rfl (n_ rfl rfl rfl rfl (n_ rfl rfl rfl rfl (n_ rfl rfl rfl rfl (n_ rfl rfl rfl rfl (a_ (z_ rfl rfl) rfl ?_)))))))))
    refine d_ (b_ rfl (w_ rfl (g_ (c_ (a_ (e_ rfl) rfl (d_ (b_ rfl (u_ ?_))))))))
    exact Y_ cm_ () (s_ rfl (do_ fun q => by obtain ⟨q1, q2, q3, q4, q5, q6, q7, _, q8, q9, q10⟩ := q; omega)) B_ (fun _ _ _ => trivial)
  ·
   replace hr2 := of_decide_eq_true hr2
   refine n_ rfl rfl rfl rfl (n_ rfl rfl rfl rfl (n_ rfl rfl rfl rfl (a_ (z_ rfl rfl) rfl (a_ (f_ rfl) rfl (n_ rfl rfl rfl rfl (n_ rfl rfl rfl rfl (n_ rfl rfl rfl rfl (a_ (z_ rfl rfl) rfl (a_ (f_ rfl) rfl ?_)))))))))
   refine n_ rfl rfl rfl rfl (n_ rfl rfl rfl rfl (n_ rfl rfl rfl rfl (a_ (z_ rfl rfl) rfl (a_ (f_ rfl) rfl (n_ rfl rfl rfl rfl (n_ rfl rfl rfl rfl (n_ rfl rfl rfl rfl (a_ (z_ rfl rfl) rfl (a_ (f_ rfl) rfl ?_)))))))))
   refine n_ rfl rfl rfl rfl (n_ rfl rfl rfl rfl (n_ rfl rfl rfl rfl (n_ rfl rfl rfl rfl (a_ (z_ rfl rfl) rfl (d_ (b_ rfl (w_ rfl (g_ (c_ ?_)))))))))
   refine a_ (e_ rfl) rfl (d_ (b_ rfl (u_ ?_)))
   exact Y_ cm_ () (s_ rfl (do_ fun q => by obtain ⟨q1, q2, q3, q4, q5, q6, q7, _, q8, q9, q10⟩ := q; omega)) B_ (fun _ _ _ => trivial)
 ·
  replace hr1 := of_decide_eq_true hr1
  refine n_ rfl rfl rfl rfl (n_ rfl rfl rfl rfl (n_ rfl rfl rfl rfl (a_ (z_ rfl rfl) rfl (a_ (f_ rfl) rfl (n_ rfl rfl rfl rfl (n_ rfl rfl rfl rfl (n_ rfl rfl rfl rfl (a_ (z_ rfl rfl) rfl (a_ (f_ rfl) rfl ?_)))))))))
  refine n_ rfl rfl rfl rfl (n_ rfl rfl rfl rfl (n_ rfl rfl rfl rfl (a_ (z_ rfl rfl) rfl (a_ (f_ rfl) rfl (n_ rfl rfl rfl rfl (n_ rfl rfl rfl rfl (n_ rfl rfl rfl rfl (a_ (z_ rfl rfl) rfl (a_ (f_ rfl) rfl ?_)))))))))
  refine n_ rfl rfl rfl rfl (n_ rfl rfl rfl rfl (n_ rfl rfl rfl rfl (a_ (z_ rfl rfl) rfl (a_ (f_ rfl) rfl (n_ rfl rfl rfl rfl (n_ rfl rfl rfl rfl (n_ rfl rfl rfl rfl (n_ rfl rfl rfl rfl (a_ (z_ rfl rfl) rfl ?_)))))))))
  refine d_ (b_ rfl (w_ rfl (g_ (c_ (a_ (e_ rfl) rfl (d_ (b_ rfl (u_ ?_))))))))
  exact Y_ cm_ () (s_ rfl (do_ fun q => by obtain ⟨q1, q2, q3, q4, q5, q6, q7, _, q8, q9, q10⟩ := q; omega)) B_ (fun _ _ _ => trivial)
theorem elt_u8 : Elt Tryz.prog 39 5 1 1 := ix_ hU_ (z := .int .u8 0) (by kernel_rfl) rfl (by decide)
theorem elt_by : EltB Tryz.prog 39 5 9 := eltB hU_ dj_ (by kernel_rfl)
theorem dn_ (L : Str) (n : Int) (k : Nat) (sv : Value) (Hr : Hp) (hr : br_ 5 1 sv (List.length L) (List.flatMap u8C L) Hr) (hk : k ≤ 8) (hL : L.length ≤ 140737488355000) : Tri Tryz.prog 37 #[sv, .int .i64 n, .int .i64 (k : Int)] Hr [] (fun y : {y : Value × Hp // br_ 5 1 y.1 (List.length (L ++ ay_ n k)) (List.flatMap u8C (L ++ ay_ n k)) y.2} => y.1.1) (fun y => y.1.2) (fun _ => []) := by
  refine T_ Tryz.func37 rfl rfl Tryz.ntmps37 rfl fun v0 => ?_
  refine g_ (c_ (a_ (e_ rfl) rfl (d_ (b_ rfl (g_ (g_ (c_ (a_ (f_ rfl) rfl (a_ (ac_ rfl rfl rfl (aK_ (by omega) (by omega))) rfl ?_)))))))))
  refine a_ (e_ rfl) rfl (d_ (b_ rfl (ae_ ?_)))
  refine bz_ (ι := {y : Nat × Str × Value × Hp // y.1 ≤ k ∧ L ++ ay_ n k = y.2.1 ++ ay_ n y.1 ∧ br_ 5 1 y.2.2.1 (List.length y.2.1) (List.flatMap u8C y.2.1) y.2.2.2}) (fun y => [(0, y.1.2.2.1), (1, .int .i64 n), (7, .int .i64 ((y.1.1 : Int) - 1))]) (fun y => (y.1.2.2.2)) (fun y => []) (fun y => y.1.1) ⟨(k, L, sv, Hr), Nat.le_refl _, rfl, hr⟩ ⟨rfl, rfl, rfl, trivial⟩ cI_ (fun _ _ _ => trivial) ?_
  rintro ⟨⟨j, l, sv_B, H_B⟩, hj, hl, hr_B⟩
  dsimp only at hj hl hr_B ⊢
  refine g_ (g_ (c_ (a_ (f_ rfl) rfl (E_ (ch_ rfl rfl) rfl fun r1 hr1 => ?_))))
  refine d_ (b_ rfl ?_)
  cases r1
  · skip
    replace hr1 := of_decide_eq_false hr1
    obtain rfl : j = 0 := by omega
    simp only [ay_, List.append_nil] at hl
    refine y_ rfl (bi_ rfl (b_ rfl (g_ (c_ (a_ (f_ rfl) rfl (a_ (e_ rfl) rfl (d_ (b_ rfl (u_ ?_)))))))))
    exact Y_ Tryz.results37 ⟨(sv_B, H_B), by rw [hl]; exact hr_B⟩ rfl cI_ (fun _ _ _ => trivial)
  · skip
    replace hr1 := of_decide_eq_true hr1
    obtain ⟨i, rfl⟩ : ∃ i, j = i + 1 := ⟨j - 1, by omega⟩
    refine w_ rfl (L_ (b_ rfl (g_ (ae_ (c_ (a_ (f_ rfl) rfl (a_ (f_ rfl) rfl (a_ (eF_ cM_ dI_ rfl (ls_ n)) rfl (a_ (f_ rfl) rfl ?_)))))))))
    refine a_ (bW_ (ac_ rfl rfl rfl (aK_ (by omega) (by omega))) (show _ = Value.int .i64 (8 * (i : Int)) by congr 1; omega)) rfl (a_ (md_ (m := Go.Vs.bits n) (i := i) rfl rfl (by omega)) rfl (a_ (eF_ dI_ jq_ rfl (nQ_ _)) rfl (aX_ bv_ eZ_ Tryz.zeroValue5 rfl rfl rfl rfl rfl rfl fun b1 => ?_)))
    refine bH_ (news := List.flatMap u8C [(UInt8.ofNat (Go.Vs.bits n / 256 ^ i))]) elt_u8 hr_B rfl rfl aQ_ rfl (cn_ 0 rfl) (fun u hu => bS_ nU_ hu) (by simp only [maxLen]; (have z := congrArg List.length hl; simp only [List.length_append, bI_, List.length_cons, List.length_nil] at z ⊢; omega)) (by (have z := congrArg List.length hl; simp only [List.length_append, bI_, List.length_cons, List.length_nil] at z ⊢; omega)) rfl fun sv1 Hr1 hr1 => ?_
    refine aZ_ List.perm_append_comm ?_
    have hq1 : br_ 5 1 sv1 (List.length (l ++ [(UInt8.ofNat (Go.Vs.bits n / 256 ^ i))])) (List.flatMap u8C (l ++ [(UInt8.ofNat (Go.Vs.bits n / 256 ^ i))])) Hr1 := by rw [List.length_append, List.flatMap_append]; exact hr1
    refine a_ (e_ rfl) rfl (d_ (b_ rfl (c_ (a_ (f_ rfl) rfl (a_ (ac_ rfl rfl rfl (aK_ (by omega) (by omega))) rfl (a_ (e_ rfl) rfl (d_ (q_ rfl ?_))))))))
    exact aO_ ⟨(i, (l ++ [(UInt8.ofNat (Go.Vs.bits n / 256 ^ i))]), sv1, Hr1), (by omega), (by rw [hl]; simp [ay_]), hq1⟩ (by dsimp only; omega) ⟨rfl, rfl, (congrArg some (congrArg (Value.int .i64) (by dsimp only; omega))), trivial⟩ aQ_ (fun _ _ _ => trivial)
end Go.Proofs.YtaffcjgphlhppaaGreatDoor
