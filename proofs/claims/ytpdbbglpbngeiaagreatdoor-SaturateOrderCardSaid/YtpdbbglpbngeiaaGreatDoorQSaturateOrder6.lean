/-
  Part of the proof of the law SaturateOrder over this seat: the small logic, the data, the contracts of functions (no condition).
-/
import Derived.Test.YtpdbbglpbngeiaaGreatDoorQSaturateOrder5
import Derived.Shelf.SlSortCmp.NoneTotal
import Derived.Test.YtpdbbglpbngeiaaGreatDoorProg
import Derived.Test.YtpdbbglpbngeiaaGreatDoorQSaturateOrder2
import Derived.Test.YtpdbbglpbngeiaaGreatDoorRows
set_option linter.unusedVariables false
set_option linter.unusedSimpArgs false
set_option linter.unusedSectionVars false
namespace Go.Proofs.YtpdbbglpbngeiaaGreatDoor
open Go Go.Sx Go.Proofs
set_option linter.unusedVariables false
attribute [local irreducible] Code.wp wpList wpAnyH
open Go.Vs
def EA (m : Nat) (hm : m ≤ 65536) (B : EngB) (b7 b8 b9 kb fb : Nat) : Emt Tryz.prog 41 where
  stp := stpA m
  kof := idk
  St := StA b9 kb fb
  fn := 55
  caps := [.pointer (some ⟨b7, 0, none⟩), .pointer (some ⟨b8, 0, none⟩), .pointer (some ⟨b9, 0, none⟩)]
  ef := andF (objF b7 (.cells #[.pointer (some ⟨B.g, 0, none⟩)] 85 (0, 0))) (andF (objF b8 (.cells #[.int .i64 (m : Int)] 3 (0, 0))) (objF B.g (.cells #[.map (some B.pb), .slice B.lad B.lps.length B.lcap, .map (some kb), .func (.func 55) #[] #[.pointer (some ⟨b7, 0, none⟩), .pointer (some ⟨b8, 0, none⟩), .pointer (some ⟨b9, 0, none⟩)], .map (some B.ab), .map (some B.ub), .map (some B.ob), .map (some B.ib), .map (some B.rb), .map (some B.sb), .map (some fb)] 94 (0, 0))))
  kb := kb
  fb := fb
  grows := growsA m
  emit := fun f nw fm H hS => by
    obtain ⟨sv, es, c, es2, c2, q, Hq, rfl, h1, h2, h3, h4⟩ := hS
    exact tri_lend [] (emitA_c f nw fm m hm B.g b7 b8 b9 kb fb _ _ _ _ _ _ _ _ _ _ sv es es2 c c2 q Hq h1 h2 h3 h4) (fun v _ h => ⟨h.1.1, h.1.2.1, h.1.2.2, trivial⟩)
  known := fun hS => by
    obtain ⟨sv, es, c, es2, c2, q, Hq, rfl, h1, h2, h3, h4⟩ := hS
    exact ⟨es, c, by simp, h2⟩
  firm := fun hS => by
    obtain ⟨sv, es, c, es2, c2, q, Hq, rfl, h1, h2, h3, h4⟩ := hS
    exact ⟨es2, c2, q, by simp, h3, h4⟩
  setf := fun {nw fm H} f hS => by
    obtain ⟨sv, es, c, es2, c2, q, Hq, rfl, h1, h2, h3, h4⟩ := hS
    refine ⟨es2, c2, q, (b9, .cells #[sv] 26 (0, 0)) :: (kb, .map es c) :: Hq, pf_f1 (pf_cons (pf_cons pf_here)), h3, h4, fun es' c' h5 => ⟨(b9, .cells #[sv] 26 (0, 0)) :: (kb, .map es c) :: ([(fb, .map es' c')] ++ Hq), ⟨sv, es, c, es', c', _, Hq, rfl, h1, h2, h5, ?_⟩, pf_f1 (pf_cons (pf_cons pf_here))⟩⟩
    intro z
    split
    · rename_i hz; rw [h4, List.mem_cons]; constructor
      · exact .inr
      · rintro (rfl | h)
        · exact (h4 _).1 hz
        · exact h
    · rw [List.mem_append, List.mem_singleton, h4, List.mem_cons, or_comm]
def EN (cl : List Fc) (B : EngB) (b7 b9 kb fb nb : Nat) : Emt Tryz.prog 41 where
  stp := stpN cl
  kof := kofN cl
  St := StN cl kb fb nb
  fn := 67
  caps := [.pointer (some ⟨b7, 0, none⟩), .pointer (some ⟨b9, 0, none⟩)]
  ef := andF (objF b7 (.cells #[.pointer (some ⟨B.g, 0, none⟩)] 85 (0, 0))) (andF (objF b9 (.cells #[.map (some nb)] 88 (0, 0))) (objF B.g (.cells #[.map (some B.pb), .slice B.lad B.lps.length B.lcap, .map (some kb), .func (.func 67) #[] #[.pointer (some ⟨b7, 0, none⟩), .pointer (some ⟨b9, 0, none⟩)], .map (some B.ab), .map (some B.ub), .map (some B.ob), .map (some B.ib), .map (some B.rb), .map (some B.sb), .map (some fb)] 94 (0, 0))))
  kb := kb
  fb := fb
  grows := growsN cl
  emit := fun f nw fm H hS => by
    obtain ⟨es, c1, es2, c2, q, es3, c3, rfl, h1, h2, h3, h4, h6⟩ := hS
    exact tri_lend [] (emitN_c f cl nw fm B.g b7 b9 kb fb nb _ _ _ _ _ _ _ _ _ _ es es2 es3 c1 c2 c3 q h1 h2 h3 h4 h6) (fun v _ h => ⟨h.1.1, h.1.2.1, h.1.2.2, trivial⟩)
  known := fun hS => by
    obtain ⟨es, c1, es2, c2, q, es3, c3, rfl, h1, h2, h3, h4, h6⟩ := hS
    exact ⟨es, c1, by simp, h2⟩
  firm := fun hS => by
    obtain ⟨es, c1, es2, c2, q, es3, c3, rfl, h1, h2, h3, h4, h6⟩ := hS
    exact ⟨es2, c2, q, by simp, h3, h4⟩
  setf := fun {nw fm H} f hS => by
    obtain ⟨es, c1, es2, c2, q, es3, c3, rfl, h1, h2, h3, h4, h6⟩ := hS
    refine ⟨es2, c2, q, (nb, .map es3 c3) :: [(kb, .map es c1)], pf_f1 (pf_cons (pf_cons pf_here)), h3, h4, fun es' c' h5 => ⟨(nb, .map es3 c3) :: (kb, .map es c1) :: [(fb, .map es' c')], ⟨es, c1, es', c', _, es3, c3, rfl, h1, h2, h5, ?_, h6⟩, pf_f1 (pf_cons (pf_cons pf_here))⟩⟩
    intro z
    split
    · rename_i hz; rw [h4, List.mem_cons]; constructor
      · exact .inr
      · rintro (rfl | h)
        · exact (h4 _).1 hz
        · exact h
    · rw [List.mem_append, List.mem_singleton, h4, List.mem_cons, or_comm]
end Go.Proofs.YtpdbbglpbngeiaaGreatDoor
namespace Go.Proofs.YtpdbbglpbngeiaaGreatDoor
open Go Go.Sx Go.Proofs
set_option linter.unusedVariables false
attribute [local irreducible] Code.wp wpList wpAnyH
open Go.Vs
def fvC (v : Value) : List Value := [v]
theorem fvC_len (v : Value) : (fvC v).length = 1 := rfl
theorem yld_array {P : Program} {N : Nat} {fr : Fr} {H : Hp} {Γ : List Fct} {ty : TypeId} {t e : TypeId} {n sz : Nat} {parts : List (Nat × Operand)} {vs : List (Nat × Value)} {z cs : List Value} (hz : ∀ w, (zeroValue t).run P w = .ok (.agg z.toArray) w) (hu : ∀ w, (underlying t).run P w = .ok (.array n e) w) (hs : ∀ w, (sizeOf e).run P w = .ok sz w) (hx : Fr.evp fr parts = some vs) (hf : fillL (fun i => some (i * sz, sz)) z vs = some cs) :
    Yld P N fr H Γ (.build t parts.toArray) ty (.agg cs.toArray) :=
  yld_build (fun a h1 w => by
    have := h1.evp hx
    rw [List.map_toArray, this]
    have hf' := fillL_eq _ _ _ _ hf
    simp only [Instr.build, Sem.run_bind, hz, Result.andThen_ok, hu, hs, Value.cells, hf', Sem.run_pure])
def rlV (g : Nat) (k : Nat) : List Value := if k = 1 then [(Value.func (.func 100) #[.pointer (some ⟨g, 0, none⟩)] #[]), (Value.func (.func 101) #[.pointer (some ⟨g, 0, none⟩)] #[]), (Value.func (.func 102) #[.pointer (some ⟨g, 0, none⟩)] #[]), (Value.func (.func 103) #[.pointer (some ⟨g, 0, none⟩)] #[]), (Value.func (.func 104) #[.pointer (some ⟨g, 0, none⟩)] #[]), (Value.func (.func 105) #[.pointer (some ⟨g, 0, none⟩)] #[])] else if k = 2 then [(Value.func (.func 106) #[.pointer (some ⟨g, 0, none⟩)] #[]), (Value.func (.func 107) #[.pointer (some ⟨g, 0, none⟩)] #[]), (Value.func (.func 108) #[.pointer (some ⟨g, 0, none⟩)] #[]), (Value.func (.func 109) #[.pointer (some ⟨g, 0, none⟩)] #[])] else [(Value.func (.func 110) #[.pointer (some ⟨g, 0, none⟩)] #[]), (Value.func (.func 111) #[.pointer (some ⟨g, 0, none⟩)] #[])]
theorem rules_c (g : Nat) : Tri Tryz.prog 58 #[.pointer (some ⟨g, 0, none⟩)] [] [] (fun y : Nat × Nat × Nat => .agg #[.slice none 0 0, .slice (some ⟨y.1, 0, none⟩) 6 6, .slice (some ⟨y.2.1, 0, none⟩) 4 4, .slice (some ⟨y.2.2, 0, none⟩) 2 2]) (fun _ => []) (fun y => [rowF (some ⟨y.1, 0, none⟩) (List.flatMap fvC (rlV g 1)), rowF (some ⟨y.2.1, 0, none⟩) (List.flatMap fvC (rlV g 2)), rowF (some ⟨y.2.2, 0, none⟩) (List.flatMap fvC (rlV g 3))]) := by
  refine tri_of_body Tryz.func58 rfl rfl Tryz.ntmps58 rfl fun v0 => ?_
  refine run_seq (run_region (ops_alloc Tryz.zeroValue98 rfl fun b1 => ?_))
  refine ops_nil (fin_next rfl (run_seq (run_region (ops_val (yld_move rfl) rfl (ops_val (yld_func (us := [.pointer (some ⟨g, 0, none⟩)]) (vs := []) rfl rfl) rfl ?_)))))
  refine ops_val (yld_move rfl) rfl (ops_val (yld_func (us := [.pointer (some ⟨g, 0, none⟩)]) (vs := []) rfl rfl) rfl ?_)
  refine ops_val (yld_move rfl) rfl (ops_val (yld_func (us := [.pointer (some ⟨g, 0, none⟩)]) (vs := []) rfl rfl) rfl ?_)
  refine ops_val (yld_move rfl) rfl (ops_val (yld_func (us := [.pointer (some ⟨g, 0, none⟩)]) (vs := []) rfl rfl) rfl ?_)
  refine ops_val (yld_move rfl) rfl (ops_val (yld_func (us := [.pointer (some ⟨g, 0, none⟩)]) (vs := []) rfl rfl) rfl ?_)
  refine ops_val (yld_move rfl) rfl (ops_val (yld_func (us := [.pointer (some ⟨g, 0, none⟩)]) (vs := []) rfl rfl) rfl ?_)
  refine ops_slit Tryz.runUnderlying97 Tryz.sizeOf89 Tryz.zeroValue89 rfl rfl rfl rfl rfl rfl fun b2 => ?_
  refine ok_giveR (List.flatMap fvC [(Value.func (.func 100) #[.pointer (some ⟨g, 0, none⟩)] #[]), (Value.func (.func 101) #[.pointer (some ⟨g, 0, none⟩)] #[]), (Value.func (.func 102) #[.pointer (some ⟨g, 0, none⟩)] #[]), (Value.func (.func 103) #[.pointer (some ⟨g, 0, none⟩)] #[]), (Value.func (.func 104) #[.pointer (some ⟨g, 0, none⟩)] #[]), (Value.func (.func 105) #[.pointer (some ⟨g, 0, none⟩)] #[])]) pf_here rfl ?_
  refine ops_val (yld_move rfl) rfl (ops_val (yld_func (us := [.pointer (some ⟨g, 0, none⟩)]) (vs := []) rfl rfl) rfl ?_)
  refine ops_val (yld_move rfl) rfl (ops_val (yld_func (us := [.pointer (some ⟨g, 0, none⟩)]) (vs := []) rfl rfl) rfl ?_)
  refine ops_val (yld_move rfl) rfl (ops_val (yld_func (us := [.pointer (some ⟨g, 0, none⟩)]) (vs := []) rfl rfl) rfl ?_)
  refine ops_val (yld_move rfl) rfl (ops_val (yld_func (us := [.pointer (some ⟨g, 0, none⟩)]) (vs := []) rfl rfl) rfl ?_)
  refine ops_slit Tryz.runUnderlying97 Tryz.sizeOf89 Tryz.zeroValue89 rfl rfl rfl rfl rfl rfl fun b3 => ?_
  refine ok_giveR (List.flatMap fvC [(Value.func (.func 106) #[.pointer (some ⟨g, 0, none⟩)] #[]), (Value.func (.func 107) #[.pointer (some ⟨g, 0, none⟩)] #[]), (Value.func (.func 108) #[.pointer (some ⟨g, 0, none⟩)] #[]), (Value.func (.func 109) #[.pointer (some ⟨g, 0, none⟩)] #[])]) pf_here rfl ?_
  refine ops_val (yld_move rfl) rfl (ops_val (yld_func (us := [.pointer (some ⟨g, 0, none⟩)]) (vs := []) rfl rfl) rfl ?_)
  refine ops_val (yld_move rfl) rfl (ops_val (yld_func (us := [.pointer (some ⟨g, 0, none⟩)]) (vs := []) rfl rfl) rfl ?_)
  refine ops_slit Tryz.runUnderlying97 Tryz.sizeOf89 Tryz.zeroValue89 rfl rfl rfl rfl rfl rfl fun b4 => ?_
  refine ok_giveR (List.flatMap fvC [(Value.func (.func 110) #[.pointer (some ⟨g, 0, none⟩)] #[]), (Value.func (.func 111) #[.pointer (some ⟨g, 0, none⟩)] #[])]) pf_here rfl ?_
  refine ops_val (yld_array Tryz.zeroValue98 Tryz.runUnderlying98 Tryz.sizeOf97 rfl rfl) rfl ?_
  refine ops_store 0 Tryz.sizeOf98 rfl rfl rfl rfl rfl rfl ?_
  refine ops_nil (fin_next rfl (run_ret ?_))
  exact retR (b2, b3, b4) (fun aa v h1 h2 => res_cellS (us := [.slice none 0 0, .slice (some ⟨b2, 0, none⟩) (List.length [(Value.func (.func 100) #[.pointer (some ⟨g, 0, none⟩)] #[]), (Value.func (.func 101) #[.pointer (some ⟨g, 0, none⟩)] #[]), (Value.func (.func 102) #[.pointer (some ⟨g, 0, none⟩)] #[]), (Value.func (.func 103) #[.pointer (some ⟨g, 0, none⟩)] #[]), (Value.func (.func 104) #[.pointer (some ⟨g, 0, none⟩)] #[]), (Value.func (.func 105) #[.pointer (some ⟨g, 0, none⟩)] #[])]) 6, .slice (some ⟨b3, 0, none⟩) (List.length [(Value.func (.func 106) #[.pointer (some ⟨g, 0, none⟩)] #[]), (Value.func (.func 107) #[.pointer (some ⟨g, 0, none⟩)] #[]), (Value.func (.func 108) #[.pointer (some ⟨g, 0, none⟩)] #[]), (Value.func (.func 109) #[.pointer (some ⟨g, 0, none⟩)] #[])]) 4, .slice (some ⟨b4, 0, none⟩) (List.length [(Value.func (.func 110) #[.pointer (some ⟨g, 0, none⟩)] #[]), (Value.func (.func 111) #[.pointer (some ⟨g, 0, none⟩)] #[])]) 2]) 0 Tryz.results58 Tryz.isAgg98 Tryz.sizeOf98 rfl rfl rfl aa v h1 h2) pf_nil (fun v _ h => by exact ⟨h.2.2.1, h.2.1, h.1, trivial⟩)
end Go.Proofs.YtpdbbglpbngeiaaGreatDoor
namespace Go.Proofs.YtpdbbglpbngeiaaGreatDoor
open Go Go.Sx Go.Proofs
set_option linter.unusedVariables false
attribute [local irreducible] Code.wp wpList wpAnyH
open Go.Vs
/-- the facts on an index that is lent -/
theorem lend_c (B : EngB) (E : Emt Tryz.prog 41) (A0 : EngA) (pm : List (Ky × Pc)) (x : Ix) (f : Fc) (nw fm : List Fc) (Hs : Hp) (hS : E.St nw fm Hs) (Ha Hu Ho Hi Hr Hm : Hp) (hI : IxO 9 41 B x ⟨Ha, Hu, Ho, Hi, Hr, Hm⟩) {n : FuncId} {args : Array Value} {ret : Hp → Prop} (hT : ∀ A : EngA, A.p = A0.p → Tri Tryz.prog n args Hs [gF B E, pF B pm A, aF B x A, uF B x A, oF B x A, iF B x A, rF B x A, sF B x A, E.ef] (fun _ : {H' : Hp // ret H'} => .tuple #[]) (fun y => y.1) (fun _ => [])) :
    Tri Tryz.prog n args ((Ha ++ (Hu ++ (Ho ++ (Hi ++ (Hr ++ Hm))))) ++ Hs) [gF B E, pF B pm A0, E.ef] (fun _ : {H' : Hp // ret H'} => .tuple #[]) (fun y => (Ha ++ (Hu ++ (Ho ++ (Hi ++ (Hr ++ Hm))))) ++ y.1) (fun _ => []) := by
  obtain ⟨ha, hu, ho, hi, hr, hm⟩ := hI
  dsimp only at ha hu ho hi hr hm
  obtain ⟨a1, k1⟩ := ha.lent (P := Tryz.prog) keyS
  obtain ⟨a2, k2⟩ := hu.lent (P := Tryz.prog) keyS
  obtain ⟨a3, k3⟩ := ho.lent (P := Tryz.prog) keySpot
  obtain ⟨a4, k4⟩ := hi.lent (P := Tryz.prog) keySpot
  obtain ⟨a5, k5⟩ := hr.lent (P := Tryz.prog) keySpot
  obtain ⟨a6, k6⟩ := hm.lent (P := Tryz.prog) keySpot
  refine tri_lend _ (hT ⟨A0.p, a1, a2, a3, a4, a5, a6⟩ rfl) fun v hB h => ⟨h.1, h.2.1, k1 v fun p hp => hB p (by simp [hp]), k2 v fun p hp => hB p (by simp [hp]), k3 v fun p hp => hB p (by simp [hp]), k4 v fun p hp => hB p (by simp [hp]), k5 v fun p hp => hB p (by simp [hp]), k6 v fun p hp => hB p (by simp [hp]), h.2.2.1, trivial⟩
theorem rl10_c (B : EngB) (E : Emt Tryz.prog 41) (A0 : EngA) (pm : List (Ky × Pc)) (x : Ix) (f : Fc) (nw fm : List Fc) (Hs : Hp) (hS : E.St nw fm Hs) (Ha Hu Ho Hi Hr Hm : Hp) (hI : IxO 9 41 B x ⟨Ha, Hu, Ho, Hi, Hr, Hm⟩) (hpl : ∀ k, (lat pm k).length ≤ 1000000000) (hxl : ∀ k, (lat x.above k).length ≤ 1000000000 ∧ (lat x.under k).length ≤ 1000000000) (hyl : ∀ k, (lat x.frm k).length ≤ 1000000000 ∧ (lat x.into k).length ≤ 1000000000 ∧ (lat x.ranges k).length ≤ 1000000000 ∧ (lat x.firms k).length ≤ 1000000000) (hf : f.kind = 3 → -1099511627776 ≤ f.lo ∧ f.lo ≤ f.hi ∧ f.hi ≤ 1099511627776) (hq : f.kind = 3 → ∀ y ∈ lat pm (Ky.mk 9 (Fc.r f) []), -1099511627776 ≤ y.lo ∧ y.lo ≤ y.hi ∧ y.hi ≤ 1099511627776) (hk : f.kind = 1) : Tri Tryz.prog 100 #[.pointer (some ⟨B.g, 0, none⟩), f.val] ((Ha ++ (Hu ++ (Ho ++ (Hi ++ (Hr ++ Hm))))) ++ Hs) [gF B E, pF B pm A0, E.ef] (fun _ : {H' : Hp // E.St (rl E.stp E.kof pm x f 0 (nw, fm)).1 (rl E.stp E.kof pm x f 0 (nw, fm)).2 H'} => .tuple #[]) (fun y => (Ha ++ (Hu ++ (Ho ++ (Hi ++ (Hr ++ Hm))))) ++ y.1) (fun _ => []) := by
  refine lend_c B E A0 pm x f nw fm Hs hS Ha Hu Ho Hi Hr Hm hI fun A hA => ?_
  have h := contain_c B E A pm x f nw fm Hs hS hpl hxl hyl
  have e : rl E.stp E.kof pm x f 0 (nw, fm) = _ := if_pos hk
  rw [e]
  exact h
theorem rl11_c (B : EngB) (E : Emt Tryz.prog 41) (A0 : EngA) (pm : List (Ky × Pc)) (x : Ix) (f : Fc) (nw fm : List Fc) (Hs : Hp) (hS : E.St nw fm Hs) (Ha Hu Ho Hi Hr Hm : Hp) (hI : IxO 9 41 B x ⟨Ha, Hu, Ho, Hi, Hr, Hm⟩) (hpl : ∀ k, (lat pm k).length ≤ 1000000000) (hxl : ∀ k, (lat x.above k).length ≤ 1000000000 ∧ (lat x.under k).length ≤ 1000000000) (hyl : ∀ k, (lat x.frm k).length ≤ 1000000000 ∧ (lat x.into k).length ≤ 1000000000 ∧ (lat x.ranges k).length ≤ 1000000000 ∧ (lat x.firms k).length ≤ 1000000000) (hf : f.kind = 3 → -1099511627776 ≤ f.lo ∧ f.lo ≤ f.hi ∧ f.hi ≤ 1099511627776) (hq : f.kind = 3 → ∀ y ∈ lat pm (Ky.mk 9 (Fc.r f) []), -1099511627776 ≤ y.lo ∧ y.lo ≤ y.hi ∧ y.hi ≤ 1099511627776) (hk : f.kind = 1) : Tri Tryz.prog 101 #[.pointer (some ⟨B.g, 0, none⟩), f.val] ((Ha ++ (Hu ++ (Ho ++ (Hi ++ (Hr ++ Hm))))) ++ Hs) [gF B E, pF B pm A0, E.ef] (fun _ : {H' : Hp // E.St (rl E.stp E.kof pm x f 1 (nw, fm)).1 (rl E.stp E.kof pm x f 1 (nw, fm)).2 H'} => .tuple #[]) (fun y => (Ha ++ (Hu ++ (Ho ++ (Hi ++ (Hr ++ Hm))))) ++ y.1) (fun _ => []) := by
  refine lend_c B E A0 pm x f nw fm Hs hS Ha Hu Ho Hi Hr Hm hI fun A hA => ?_
  have h := both_c B E A pm x f nw fm Hs hS hpl hxl hyl
  have e : rl E.stp E.kof pm x f 1 (nw, fm) = _ := if_pos hk
  rw [e]
  exact h
theorem rl12_c (B : EngB) (E : Emt Tryz.prog 41) (A0 : EngA) (pm : List (Ky × Pc)) (x : Ix) (f : Fc) (nw fm : List Fc) (Hs : Hp) (hS : E.St nw fm Hs) (Ha Hu Ho Hi Hr Hm : Hp) (hI : IxO 9 41 B x ⟨Ha, Hu, Ho, Hi, Hr, Hm⟩) (hpl : ∀ k, (lat pm k).length ≤ 1000000000) (hxl : ∀ k, (lat x.above k).length ≤ 1000000000 ∧ (lat x.under k).length ≤ 1000000000) (hyl : ∀ k, (lat x.frm k).length ≤ 1000000000 ∧ (lat x.into k).length ≤ 1000000000 ∧ (lat x.ranges k).length ≤ 1000000000 ∧ (lat x.firms k).length ≤ 1000000000) (hf : f.kind = 3 → -1099511627776 ≤ f.lo ∧ f.lo ≤ f.hi ∧ f.hi ≤ 1099511627776) (hq : f.kind = 3 → ∀ y ∈ lat pm (Ky.mk 9 (Fc.r f) []), -1099511627776 ≤ y.lo ∧ y.lo ≤ y.hi ∧ y.hi ≤ 1099511627776) (hk : f.kind = 1) : Tri Tryz.prog 102 #[.pointer (some ⟨B.g, 0, none⟩), f.val] ((Ha ++ (Hu ++ (Ho ++ (Hi ++ (Hr ++ Hm))))) ++ Hs) [gF B E, pF B pm A0, E.ef] (fun _ : {H' : Hp // E.St (rl E.stp E.kof pm x f 2 (nw, fm)).1 (rl E.stp E.kof pm x f 2 (nw, fm)).2 H'} => .tuple #[]) (fun y => (Ha ++ (Hu ++ (Ho ++ (Hi ++ (Hr ++ Hm))))) ++ y.1) (fun _ => []) := by
  refine lend_c B E A0 pm x f nw fm Hs hS Ha Hu Ho Hi Hr Hm hI fun A hA => ?_
  have h := some_c B E A pm x f nw fm Hs hS hpl hxl hyl
  have e : rl E.stp E.kof pm x f 2 (nw, fm) = _ := if_pos hk
  rw [e]
  exact h
theorem rl13_c (B : EngB) (E : Emt Tryz.prog 41) (A0 : EngA) (pm : List (Ky × Pc)) (x : Ix) (f : Fc) (nw fm : List Fc) (Hs : Hp) (hS : E.St nw fm Hs) (Ha Hu Ho Hi Hr Hm : Hp) (hI : IxO 9 41 B x ⟨Ha, Hu, Ho, Hi, Hr, Hm⟩) (hpl : ∀ k, (lat pm k).length ≤ 1000000000) (hxl : ∀ k, (lat x.above k).length ≤ 1000000000 ∧ (lat x.under k).length ≤ 1000000000) (hyl : ∀ k, (lat x.frm k).length ≤ 1000000000 ∧ (lat x.into k).length ≤ 1000000000 ∧ (lat x.ranges k).length ≤ 1000000000 ∧ (lat x.firms k).length ≤ 1000000000) (hf : f.kind = 3 → -1099511627776 ≤ f.lo ∧ f.lo ≤ f.hi ∧ f.hi ≤ 1099511627776) (hq : f.kind = 3 → ∀ y ∈ lat pm (Ky.mk 9 (Fc.r f) []), -1099511627776 ≤ y.lo ∧ y.lo ≤ y.hi ∧ y.hi ≤ 1099511627776) (hk : f.kind = 1) : Tri Tryz.prog 103 #[.pointer (some ⟨B.g, 0, none⟩), f.val] ((Ha ++ (Hu ++ (Ho ++ (Hi ++ (Hr ++ Hm))))) ++ Hs) [gF B E, pF B pm A0, E.ef] (fun _ : {H' : Hp // E.St (rl E.stp E.kof pm x f 3 (nw, fm)).1 (rl E.stp E.kof pm x f 3 (nw, fm)).2 H'} => .tuple #[]) (fun y => (Ha ++ (Hu ++ (Ho ++ (Hi ++ (Hr ++ Hm))))) ++ y.1) (fun _ => []) := by
  refine lend_c B E A0 pm x f nw fm Hs hS Ha Hu Ho Hi Hr Hm hI fun A hA => ?_
  have h := fillAtom_c B E A pm x f nw fm Hs hS hpl hxl hyl
  have e : rl E.stp E.kof pm x f 3 (nw, fm) = _ := if_pos hk
  rw [e]
  exact h
theorem rl14_c (B : EngB) (E : Emt Tryz.prog 41) (A0 : EngA) (pm : List (Ky × Pc)) (x : Ix) (f : Fc) (nw fm : List Fc) (Hs : Hp) (hS : E.St nw fm Hs) (Ha Hu Ho Hi Hr Hm : Hp) (hI : IxO 9 41 B x ⟨Ha, Hu, Ho, Hi, Hr, Hm⟩) (hpl : ∀ k, (lat pm k).length ≤ 1000000000) (hxl : ∀ k, (lat x.above k).length ≤ 1000000000 ∧ (lat x.under k).length ≤ 1000000000) (hyl : ∀ k, (lat x.frm k).length ≤ 1000000000 ∧ (lat x.into k).length ≤ 1000000000 ∧ (lat x.ranges k).length ≤ 1000000000 ∧ (lat x.firms k).length ≤ 1000000000) (hf : f.kind = 3 → -1099511627776 ≤ f.lo ∧ f.lo ≤ f.hi ∧ f.hi ≤ 1099511627776) (hq : f.kind = 3 → ∀ y ∈ lat pm (Ky.mk 9 (Fc.r f) []), -1099511627776 ≤ y.lo ∧ y.lo ≤ y.hi ∧ y.hi ≤ 1099511627776) (hk : f.kind = 1) : Tri Tryz.prog 104 #[.pointer (some ⟨B.g, 0, none⟩), f.val] ((Ha ++ (Hu ++ (Ho ++ (Hi ++ (Hr ++ Hm))))) ++ Hs) [gF B E, pF B pm A0, E.ef] (fun _ : {H' : Hp // E.St (rl E.stp E.kof pm x f 4 (nw, fm)).1 (rl E.stp E.kof pm x f 4 (nw, fm)).2 H'} => .tuple #[]) (fun y => (Ha ++ (Hu ++ (Ho ++ (Hi ++ (Hr ++ Hm))))) ++ y.1) (fun _ => []) := by
  refine lend_c B E A0 pm x f nw fm Hs hS Ha Hu Ho Hi Hr Hm hI fun A hA => ?_
  have h := emptyAtom_c B E A pm x f nw fm Hs hS hpl hxl hyl
  have e : rl E.stp E.kof pm x f 4 (nw, fm) = _ := if_pos hk
  rw [e]
  exact h
theorem rl15_c (B : EngB) (E : Emt Tryz.prog 41) (A0 : EngA) (pm : List (Ky × Pc)) (x : Ix) (f : Fc) (nw fm : List Fc) (Hs : Hp) (hS : E.St nw fm Hs) (Ha Hu Ho Hi Hr Hm : Hp) (hI : IxO 9 41 B x ⟨Ha, Hu, Ho, Hi, Hr, Hm⟩) (hpl : ∀ k, (lat pm k).length ≤ 1000000000) (hxl : ∀ k, (lat x.above k).length ≤ 1000000000 ∧ (lat x.under k).length ≤ 1000000000) (hyl : ∀ k, (lat x.frm k).length ≤ 1000000000 ∧ (lat x.into k).length ≤ 1000000000 ∧ (lat x.ranges k).length ≤ 1000000000 ∧ (lat x.firms k).length ≤ 1000000000) (hf : f.kind = 3 → -1099511627776 ≤ f.lo ∧ f.lo ≤ f.hi ∧ f.hi ≤ 1099511627776) (hq : f.kind = 3 → ∀ y ∈ lat pm (Ky.mk 9 (Fc.r f) []), -1099511627776 ≤ y.lo ∧ y.lo ≤ y.hi ∧ y.hi ≤ 1099511627776) (hk : f.kind = 1) : Tri Tryz.prog 105 #[.pointer (some ⟨B.g, 0, none⟩), f.val] ((Ha ++ (Hu ++ (Ho ++ (Hi ++ (Hr ++ Hm))))) ++ Hs) [gF B E, pF B pm A0, E.ef] (fun _ : {H' : Hp // E.St (rl E.stp E.kof pm x f 5 (nw, fm)).1 (rl E.stp E.kof pm x f 5 (nw, fm)).2 H'} => .tuple #[]) (fun y => (Ha ++ (Hu ++ (Ho ++ (Hi ++ (Hr ++ Hm))))) ++ y.1) (fun _ => []) := by
  refine lend_c B E A0 pm x f nw fm Hs hS Ha Hu Ho Hi Hr Hm hI fun A hA => ?_
  have h := value_c B E A pm x f nw fm Hs hS hpl hxl hyl
  have e : rl E.stp E.kof pm x f 5 (nw, fm) = _ := if_pos hk
  rw [e]
  exact h
theorem rl20_c (B : EngB) (E : Emt Tryz.prog 41) (A0 : EngA) (pm : List (Ky × Pc)) (x : Ix) (f : Fc) (nw fm : List Fc) (Hs : Hp) (hS : E.St nw fm Hs) (Ha Hu Ho Hi Hr Hm : Hp) (hI : IxO 9 41 B x ⟨Ha, Hu, Ho, Hi, Hr, Hm⟩) (hpl : ∀ k, (lat pm k).length ≤ 1000000000) (hxl : ∀ k, (lat x.above k).length ≤ 1000000000 ∧ (lat x.under k).length ≤ 1000000000) (hyl : ∀ k, (lat x.frm k).length ≤ 1000000000 ∧ (lat x.into k).length ≤ 1000000000 ∧ (lat x.ranges k).length ≤ 1000000000 ∧ (lat x.firms k).length ≤ 1000000000) (hf : f.kind = 3 → -1099511627776 ≤ f.lo ∧ f.lo ≤ f.hi ∧ f.hi ≤ 1099511627776) (hq : f.kind = 3 → ∀ y ∈ lat pm (Ky.mk 9 (Fc.r f) []), -1099511627776 ≤ y.lo ∧ y.lo ≤ y.hi ∧ y.hi ≤ 1099511627776) (hk : f.kind = 2) : Tri Tryz.prog 106 #[.pointer (some ⟨B.g, 0, none⟩), f.val] ((Ha ++ (Hu ++ (Ho ++ (Hi ++ (Hr ++ Hm))))) ++ Hs) [gF B E, pF B pm A0, E.ef] (fun _ : {H' : Hp // E.St (rl E.stp E.kof pm x f 0 (nw, fm)).1 (rl E.stp E.kof pm x f 0 (nw, fm)).2 H'} => .tuple #[]) (fun y => (Ha ++ (Hu ++ (Ho ++ (Hi ++ (Hr ++ Hm))))) ++ y.1) (fun _ => []) := by
  refine lend_c B E A0 pm x f nw fm Hs hS Ha Hu Ho Hi Hr Hm hI fun A hA => ?_
  have h := include_c B E A pm x f nw fm Hs hS hpl hxl hyl
  have e : rl E.stp E.kof pm x f 0 (nw, fm) = _ := (if_neg (by rw [hk]; decide)).trans (if_pos hk)
  rw [e]
  exact h
theorem rl21_c (B : EngB) (E : Emt Tryz.prog 41) (A0 : EngA) (pm : List (Ky × Pc)) (x : Ix) (f : Fc) (nw fm : List Fc) (Hs : Hp) (hS : E.St nw fm Hs) (Ha Hu Ho Hi Hr Hm : Hp) (hI : IxO 9 41 B x ⟨Ha, Hu, Ho, Hi, Hr, Hm⟩) (hpl : ∀ k, (lat pm k).length ≤ 1000000000) (hxl : ∀ k, (lat x.above k).length ≤ 1000000000 ∧ (lat x.under k).length ≤ 1000000000) (hyl : ∀ k, (lat x.frm k).length ≤ 1000000000 ∧ (lat x.into k).length ≤ 1000000000 ∧ (lat x.ranges k).length ≤ 1000000000 ∧ (lat x.firms k).length ≤ 1000000000) (hf : f.kind = 3 → -1099511627776 ≤ f.lo ∧ f.lo ≤ f.hi ∧ f.hi ≤ 1099511627776) (hq : f.kind = 3 → ∀ y ∈ lat pm (Ky.mk 9 (Fc.r f) []), -1099511627776 ≤ y.lo ∧ y.lo ≤ y.hi ∧ y.hi ≤ 1099511627776) (hk : f.kind = 2) : Tri Tryz.prog 107 #[.pointer (some ⟨B.g, 0, none⟩), f.val] ((Ha ++ (Hu ++ (Ho ++ (Hi ++ (Hr ++ Hm))))) ++ Hs) [gF B E, pF B pm A0, E.ef] (fun _ : {H' : Hp // E.St (rl E.stp E.kof pm x f 1 (nw, fm)).1 (rl E.stp E.kof pm x f 1 (nw, fm)).2 H'} => .tuple #[]) (fun y => (Ha ++ (Hu ++ (Ho ++ (Hi ++ (Hr ++ Hm))))) ++ y.1) (fun _ => []) := by
  refine lend_c B E A0 pm x f nw fm Hs hS Ha Hu Ho Hi Hr Hm hI fun A hA => ?_
  have h := chain_c B E A pm x f nw fm Hs hS hpl hxl hyl
  have e : rl E.stp E.kof pm x f 1 (nw, fm) = _ := (if_neg (by rw [hk]; decide)).trans (if_pos hk)
  rw [e]
  exact h
theorem rl22_c (B : EngB) (E : Emt Tryz.prog 41) (A0 : EngA) (pm : List (Ky × Pc)) (x : Ix) (f : Fc) (nw fm : List Fc) (Hs : Hp) (hS : E.St nw fm Hs) (Ha Hu Ho Hi Hr Hm : Hp) (hI : IxO 9 41 B x ⟨Ha, Hu, Ho, Hi, Hr, Hm⟩) (hpl : ∀ k, (lat pm k).length ≤ 1000000000) (hxl : ∀ k, (lat x.above k).length ≤ 1000000000 ∧ (lat x.under k).length ≤ 1000000000) (hyl : ∀ k, (lat x.frm k).length ≤ 1000000000 ∧ (lat x.into k).length ≤ 1000000000 ∧ (lat x.ranges k).length ≤ 1000000000 ∧ (lat x.firms k).length ≤ 1000000000) (hf : f.kind = 3 → -1099511627776 ≤ f.lo ∧ f.lo ≤ f.hi ∧ f.hi ≤ 1099511627776) (hq : f.kind = 3 → ∀ y ∈ lat pm (Ky.mk 9 (Fc.r f) []), -1099511627776 ≤ y.lo ∧ y.lo ≤ y.hi ∧ y.hi ≤ 1099511627776) (hk : f.kind = 2) : Tri Tryz.prog 108 #[.pointer (some ⟨B.g, 0, none⟩), f.val] ((Ha ++ (Hu ++ (Ho ++ (Hi ++ (Hr ++ Hm))))) ++ Hs) [gF B E, pF B pm A0, E.ef] (fun _ : {H' : Hp // E.St (rl E.stp E.kof pm x f 2 (nw, fm)).1 (rl E.stp E.kof pm x f 2 (nw, fm)).2 H'} => .tuple #[]) (fun y => (Ha ++ (Hu ++ (Ho ++ (Hi ++ (Hr ++ Hm))))) ++ y.1) (fun _ => []) := by
  refine lend_c B E A0 pm x f nw fm Hs hS Ha Hu Ho Hi Hr Hm hI fun A hA => ?_
  have h := fillLink_c B E A pm x f nw fm Hs hS hpl hxl hyl
  have e : rl E.stp E.kof pm x f 2 (nw, fm) = _ := (if_neg (by rw [hk]; decide)).trans (if_pos hk)
  rw [e]
  exact h
theorem rl23_c (B : EngB) (E : Emt Tryz.prog 41) (A0 : EngA) (pm : List (Ky × Pc)) (x : Ix) (f : Fc) (nw fm : List Fc) (Hs : Hp) (hS : E.St nw fm Hs) (Ha Hu Ho Hi Hr Hm : Hp) (hI : IxO 9 41 B x ⟨Ha, Hu, Ho, Hi, Hr, Hm⟩) (hpl : ∀ k, (lat pm k).length ≤ 1000000000) (hxl : ∀ k, (lat x.above k).length ≤ 1000000000 ∧ (lat x.under k).length ≤ 1000000000) (hyl : ∀ k, (lat x.frm k).length ≤ 1000000000 ∧ (lat x.into k).length ≤ 1000000000 ∧ (lat x.ranges k).length ≤ 1000000000 ∧ (lat x.firms k).length ≤ 1000000000) (hf : f.kind = 3 → -1099511627776 ≤ f.lo ∧ f.lo ≤ f.hi ∧ f.hi ≤ 1099511627776) (hq : f.kind = 3 → ∀ y ∈ lat pm (Ky.mk 9 (Fc.r f) []), -1099511627776 ≤ y.lo ∧ y.lo ≤ y.hi ∧ y.hi ≤ 1099511627776) (hk : f.kind = 2) : Tri Tryz.prog 109 #[.pointer (some ⟨B.g, 0, none⟩), f.val] ((Ha ++ (Hu ++ (Ho ++ (Hi ++ (Hr ++ Hm))))) ++ Hs) [gF B E, pF B pm A0, E.ef] (fun _ : {H' : Hp // E.St (rl E.stp E.kof pm x f 3 (nw, fm)).1 (rl E.stp E.kof pm x f 3 (nw, fm)).2 H'} => .tuple #[]) (fun y => (Ha ++ (Hu ++ (Ho ++ (Hi ++ (Hr ++ Hm))))) ++ y.1) (fun _ => []) := by
  refine lend_c B E A0 pm x f nw fm Hs hS Ha Hu Ho Hi Hr Hm hI fun A hA => ?_
  have h := emptyLink_c B E A pm x f nw fm Hs hS hpl hxl hyl
  have e : rl E.stp E.kof pm x f 3 (nw, fm) = _ := (if_neg (by rw [hk]; decide)).trans (if_pos hk)
  rw [e]
  exact h
theorem rl30_c (B : EngB) (E : Emt Tryz.prog 41) (A0 : EngA) (pm : List (Ky × Pc)) (x : Ix) (f : Fc) (nw fm : List Fc) (Hs : Hp) (hS : E.St nw fm Hs) (Ha Hu Ho Hi Hr Hm : Hp) (hI : IxO 9 41 B x ⟨Ha, Hu, Ho, Hi, Hr, Hm⟩) (hpl : ∀ k, (lat pm k).length ≤ 1000000000) (hxl : ∀ k, (lat x.above k).length ≤ 1000000000 ∧ (lat x.under k).length ≤ 1000000000) (hyl : ∀ k, (lat x.frm k).length ≤ 1000000000 ∧ (lat x.into k).length ≤ 1000000000 ∧ (lat x.ranges k).length ≤ 1000000000 ∧ (lat x.firms k).length ≤ 1000000000) (hf : f.kind = 3 → -1099511627776 ≤ f.lo ∧ f.lo ≤ f.hi ∧ f.hi ≤ 1099511627776) (hq : f.kind = 3 → ∀ y ∈ lat pm (Ky.mk 9 (Fc.r f) []), -1099511627776 ≤ y.lo ∧ y.lo ≤ y.hi ∧ y.hi ≤ 1099511627776) (hk : f.kind = 3) : Tri Tryz.prog 110 #[.pointer (some ⟨B.g, 0, none⟩), f.val] ((Ha ++ (Hu ++ (Ho ++ (Hi ++ (Hr ++ Hm))))) ++ Hs) [gF B E, pF B pm A0, E.ef] (fun _ : {H' : Hp // E.St (rl E.stp E.kof pm x f 0 (nw, fm)).1 (rl E.stp E.kof pm x f 0 (nw, fm)).2 H'} => .tuple #[]) (fun y => (Ha ++ (Hu ++ (Ho ++ (Hi ++ (Hr ++ Hm))))) ++ y.1) (fun _ => []) := by
  refine lend_c B E A0 pm x f nw fm Hs hS Ha Hu Ho Hi Hr Hm hI fun A hA => ?_
  have h := meet_c B E A pm x f nw fm Hs hS hpl hxl hyl
  have e : rl E.stp E.kof pm x f 0 (nw, fm) = _ := (if_neg (by rw [hk]; decide)).trans (if_neg (by rw [hk]; decide))
  rw [e]
  exact h
theorem rl31_c (B : EngB) (E : Emt Tryz.prog 41) (A0 : EngA) (pm : List (Ky × Pc)) (x : Ix) (f : Fc) (nw fm : List Fc) (Hs : Hp) (hS : E.St nw fm Hs) (Ha Hu Ho Hi Hr Hm : Hp) (hI : IxO 9 41 B x ⟨Ha, Hu, Ho, Hi, Hr, Hm⟩) (hpl : ∀ k, (lat pm k).length ≤ 1000000000) (hxl : ∀ k, (lat x.above k).length ≤ 1000000000 ∧ (lat x.under k).length ≤ 1000000000) (hyl : ∀ k, (lat x.frm k).length ≤ 1000000000 ∧ (lat x.into k).length ≤ 1000000000 ∧ (lat x.ranges k).length ≤ 1000000000 ∧ (lat x.firms k).length ≤ 1000000000) (hf : f.kind = 3 → -1099511627776 ≤ f.lo ∧ f.lo ≤ f.hi ∧ f.hi ≤ 1099511627776) (hq : f.kind = 3 → ∀ y ∈ lat pm (Ky.mk 9 (Fc.r f) []), -1099511627776 ≤ y.lo ∧ y.lo ≤ y.hi ∧ y.hi ≤ 1099511627776) (hk : f.kind = 3) : Tri Tryz.prog 111 #[.pointer (some ⟨B.g, 0, none⟩), f.val] ((Ha ++ (Hu ++ (Ho ++ (Hi ++ (Hr ++ Hm))))) ++ Hs) [gF B E, pF B pm A0, E.ef] (fun _ : {H' : Hp // E.St (rl E.stp E.kof pm x f 1 (nw, fm)).1 (rl E.stp E.kof pm x f 1 (nw, fm)).2 H'} => .tuple #[]) (fun y => (Ha ++ (Hu ++ (Ho ++ (Hi ++ (Hr ++ Hm))))) ++ y.1) (fun _ => []) := by
  refine lend_c B E A0 pm x f nw fm Hs hS Ha Hu Ho Hi Hr Hm hI fun A hA => ?_
  have h := out_c B E A pm x f nw fm Hs hS hpl hxl hyl (hf hk) (hq hk)
  have e : rl E.stp E.kof pm x f 1 (nw, fm) = _ := (if_neg (by rw [hk]; decide)).trans (if_neg (by rw [hk]; decide))
  rw [e]
  exact h
end Go.Proofs.YtpdbbglpbngeiaaGreatDoor
namespace Go.Proofs.YtpdbbglpbngeiaaGreatDoor
open Go Go.Sx Go.Proofs
set_option linter.unusedVariables false
attribute [local irreducible] Code.wp wpList wpAnyH
open Go.Vs
section
variable {N : Nat} {v0 : Vw} {H0 : Hp} {fr : Fr}
theorem ok_giveL {k : Act → World → Prop} {F : Hp} : ∀ (B : Hp) {H : Hp} {Γ : List Fct}, H.Perm (B ++ F) → Ok N v0 H0 k fr F (B.reverse.map (fun p => objF p.1 p.2) ++ Γ) → Ok N v0 H0 k fr H Γ
  | [], H, Γ, hH, h => ok_perm hH h
  | (b, o) :: B, H, Γ, hH, h => by
    refine ok_give (objF b o) (F := B ++ F) hH (fun _ h1 h2 _ => ⟨h1, h2⟩) ?_
    refine ok_giveL B (.refl _) ?_
    simpa using h
end
end Go.Proofs.YtpdbbglpbngeiaaGreatDoor
namespace Go.Proofs.YtpdbbglpbngeiaaGreatDoor
open Go Go.Sx Go.Proofs
set_option linter.unusedVariables false
attribute [local irreducible] Code.wp wpList wpAnyH
open Go.Vs
theorem eqIn_snil {P : Program} (w : World) (d : Nat) (t e : TypeId) (a : Option Addr) (l c : Nat) (h : P.underlying t = some (.slice e)) : (Op.equalIn (d + 1) t (.slice a l c) (.slice none 0 0)).run P w = .ok a.isNone w := by
  cases a <;> simp [Op.equalIn, run_underlying h]
theorem eq_snil {P : Program} (w : World) (t e : TypeId) (a : Option Addr) (l c : Nat) (h : P.underlying t = some (.slice e)) : (Op.equal t (.slice a l c) (.slice none 0 0)).run P w = .ok a.isNone w := eqIn_snil w 9999 t e a l c h
theorem yld_snil {P : Program} {N : Nat} {fr : Fr} {H : Hp} {Γ : List Fct} {ty t t' e : TypeId} {x y : Operand} {ad : Option Addr} {m c : Nat} (hu : P.underlying t = some (.slice e)) (hx : Fr.ev fr x = some (.slice ad m c)) (hy : Fr.ev fr y = some (.slice none 0 0)) : Yld P N fr H Γ (.binOp .eql t x y t') ty (.bool (decide (ad = none))) :=
  fun a v h1 _ _ _ _ _ => by
    have he : decide (ad = none) = ad.isNone := by cases ad <;> simp
    simp [execOp, h1.ev hx, h1.ev hy, eqGuard, binOp, eq_snil v.w t e ad m c hu, he]
theorem row_none {v : Vw} {cs : List Value} (h : RowAt v none cs) : cs = [] := by
  rcases h with h | ⟨b, off, arr, T, fz, h1, _⟩
  · exact h
  · cases h1
theorem srow_new (b : Nat) (e : TypeId) (sz : Nat) : SRow e sz (.slice (some ⟨b, 0, none⟩) 0 0) 0 [] [(b, .cells #[] e (0, 0))] := ⟨by simp, .inr ⟨b, 0, #[], rfl, rfl, Nat.le_refl _, by simp [maxLen], by simp, by simp⟩⟩
theorem cloneS_c (l : List Str) (ad : Option Addr) (cap : Nat) (hc : l.length ≤ cap) (hl : l.length ≤ 1000000000) : Tri Tryz.prog 97 #[.slice ad (List.length l) cap] [] [rowF ad (List.flatMap strC l)] (fun y : {y : Value × Hp // SRow 9 1 y.1 (List.length l) (List.flatMap strC l) y.2} => y.1.1) (fun y => y.1.2) (fun _ => []) := by
  refine tri_of_body Tryz.func97 rfl rfl Tryz.ntmps97 rfl fun v0 => ?_
  refine run_seq (run_region (ops_val (yld_assign rfl) rfl (ops_nil (fin_next rfl (run_seq (run_seq (run_region ?_)))))))
  refine ops_val (yld_move rfl) rfl (ops_valB (yld_snil Tryz.underlying25 rfl rfl) rfl fun r1 hr1 => ?_)
  refine ops_nil (fin_next rfl ?_)
  cases r1
  · skip
    replace hr1 := of_decide_eq_false hr1
    refine run_cond_f rfl (run_skip (fin_next rfl (run_seq (run_region (ops_slit0 Tryz.runUnderlying25 Tryz.sizeOf9 rfl fun b1 => ?_)))))
    refine ok_perm pf_here ?_
    refine ops_val (yld_move rfl) rfl (ops_appendR (news := List.flatMap strC l) elt_str (srow_new b1 9 1) rfl rfl (fun q => absurd q hr1) hc pf_end (by rw [fm_len strC 1 strC_len]) (fun v _ h => by exact h.1) (fun u hu => one_rows strC_one hu) (by simp only [maxLen]; omega) (by omega) rfl fun sv1 Hr1 hr1 => ?_)
    refine ok_perm List.perm_append_comm ?_
    have hq1 : SRow 9 1 sv1 (List.length (([] : List Str) ++ l)) (List.flatMap strC (([] : List Str) ++ l)) Hr1 := by rw [List.length_append, List.flatMap_append]; exact hr1
    refine ops_val (yld_assign rfl) rfl (ops_nil (fin_next rfl (run_ret ?_)))
    exact ret1 Tryz.results97 ⟨(sv1, Hr1), by simpa using hq1⟩ rfl pf_end (fun _ _ _ => trivial)
  · skip
    replace hr1 := of_decide_eq_true hr1
    refine run_cond_t rfl (run_seq (run_region (ops_val (yld_assign rfl) rfl (ops_nil (fin_next rfl (run_ret (ok_get (p := List.flatMap strC l = []) (fun v _ h => by have q := h.1; subst hr1; exact row_none q) fun hz => ?_)))))))
    have hz2 : l = [] := List.eq_nil_of_length_eq_zero (by have := congrArg List.length hz; rwa [fm_len strC 1 strC_len, Nat.mul_one] at this)
    exact ret1 Tryz.results97 ⟨(.slice none 0 0, []), by subst hz2; exact SRow.nil _ _⟩ rfl pf_nil (fun _ _ _ => trivial)
/-- the atoms of pieces, with those of all and of nothing -/
def atS (p : List Pc) : List Str := Lib.compact ((atomsL p ++ [[42], [33]]).mergeSort fun x y => decide (x ≤ y))
theorem atS_len (p : List Pc) : (atS p).length ≤ 3 * p.length + 2 := by
  have := compact_len ((atomsL p ++ [[42], [33]]).mergeSort fun x y => decide (x ≤ y))
  have h2 := atomsL_len p
  rw [List.length_mergeSort, List.length_append] at this
  simp only [List.length_cons, List.length_nil] at this
  unfold atS; omega
theorem atS_lt (p : List Pc) : (atS p).Pairwise fun x y => x < y := compact_lt (sorted_R _)
theorem atS_mem (p : List Pc) (x : Str) : x ∈ atS p ↔ x ∈ atomsL p ∨ x = [42] ∨ x = [33] := by
  unfold atS
  rw [compact_mem, List.mem_mergeSort, List.mem_append]
  simp
theorem atS_c (p : List Pc) (pad : Option Addr) (pcap : Nat) (hp : p.length ≤ 100000000) : Tri Tryz.prog 56 #[.slice pad (List.length p) pcap] [] [rowF pad (List.flatMap Pc.cells p)] (fun y : {y : Option Addr × Nat // (atS p).length ≤ y.2 ∧ y.2 ≤ maxLen ∧ (y.1 = none → y.2 = 0)} => .slice y.1.1 (atS p).length y.1.2) (fun _ => []) (fun y => [rowF y.1.1 ((atS p).flatMap strC)]) := by
  refine tri_of_body Tryz.func56 rfl rfl Tryz.ntmps56 rfl fun v0 => ?_
  refine run_seq (run_region (ops_val (yld_assign rfl) rfl (ops_nil (fin_next rfl (run_seq (run_region (ops_val (yld_move rfl) rfl ?_)))))))
  refine ops_call (atoms_c p pad pcap (by omega)) rfl pf_nil (fun v _ h => by exact ⟨h.1, trivial⟩) rfl fun ⟨⟨aad, acap⟩, hac, ham⟩ => ?_
  dsimp only
  refine ops_call (cloneS_c (atomsL p) aad acap hac (by have := atomsL_len p; omega)) rfl pf_nil (fun v _ h => by exact ⟨h.1, trivial⟩) rfl fun ⟨⟨svc, Hcl⟩, hcl⟩ => ?_
  dsimp only
  refine ok_perm pf_bare ?_
  refine ops_slit Tryz.runUnderlying25 Tryz.sizeOf9 Tryz.zeroValue9 rfl rfl rfl rfl rfl rfl fun b1 => ?_
  refine ops_append (news := List.flatMap strC [[42], [33]]) elt_str hcl rfl rfl pf_lastB rfl (own_news 0 rfl) (fun u hu => one_rows strC_one hu) (by simp only [maxLen]; (have := atomsL_len p; (try simp only [List.length_append, List.length_cons, List.length_nil]); omega)) (by (have := atomsL_len p; (try simp only [List.length_append, List.length_cons, List.length_nil]); omega)) rfl fun sv1 Hr1 hr1 => ?_
  refine ok_perm List.perm_append_comm ?_
  have hq1 : SRow 9 1 sv1 (List.length ((atomsL p) ++ [[42], [33]])) (List.flatMap strC ((atomsL p) ++ [[42], [33]])) Hr1 := by rw [List.length_append, List.flatMap_append]; exact hr1
  refine ops_val (yld_assign rfl) rfl (ops_nil (fin_next rfl (run_seq (run_region (ops_val (yld_move rfl) rfl (ops_call (sortS_c hq1 (by (have := atomsL_len p; (try simp only [List.length_append, List.length_cons, List.length_nil]); omega))) rfl pf_lastB (fun _ _ _ => by exact trivial) rfl fun ⟨Hso1, hs1⟩ => ?_))))))
  dsimp only
  have hso1 : SRow 9 1 sv1 (List.length ((((atomsL p) ++ [[42], [33]])).mergeSort fun x y => decide (x ≤ y))) (List.flatMap strC ((((atomsL p) ++ [[42], [33]])).mergeSort fun x y => decide (x ≤ y))) Hso1 := by rw [List.length_mergeSort]; exact hs1
  refine ops_nil (fin_next rfl (ok_perm (pf_f1 pf_last) ?_))
  refine run_seq (run_region (ops_val (yld_move rfl) rfl (ops_call (compactS_c hso1 (by rw [List.length_mergeSort]; (have := atomsL_len p; (try simp only [List.length_append, List.length_cons, List.length_nil]); omega))) rfl pf_lastB (fun _ _ _ => by exact trivial) rfl fun ⟨⟨svk2, Hk2⟩, hk2⟩ => ?_)))
  dsimp only
  refine ops_val (yld_assign rfl) rfl (ops_nil (fin_next rfl (run_ret (ok_giveRowN hk2 pf_hereO fun ad2 cp2 had2 hcad2 hmad2 hzad2 => ?_))))
  exact ret1 Tryz.results56 ⟨(ad2, cp2), hcad2, hmad2, hzad2⟩ (get_val rfl had2) pf_nil (fun v _ h => ⟨h.1, trivial⟩)
end Go.Proofs.YtpdbbglpbngeiaaGreatDoor
namespace Go.Proofs
open Go.Shelf
def Tryz.sortFc_ren : Go.Shelf.Ren := ⟨fun | 6 => 60 | 15 => 113 | 14 => 112 | 28 => 152 | 29 => 153 | 20 => 144 | 21 => 145 | 22 => 146 | 23 => 147 | 24 => 148 | 25 => 149 | 26 => 150 | 27 => 151 | 46 => 185 | 47 => 186 | 48 => 187 | 49 => 188 | 50 => 189 | 57 => 207 | n => n, fun | 22 => 26 | 24 => 41 | 25 => 101 | 3 => 3 | 39 => 45 | 0 => 0 | 53 => 65 | 55 => 186 | 4 => 4 | 46 => 178 | 45 => 177 | 50 => 182 | 5 => 5 | 9 => 9 | 66 => 205 | 70 => 199 | 76 => 227 | 77 => 228 | n => n, fun | n => n⟩
theorem Tryz.sortFc : Go.Proofs.SlLaysF0.n6 Tryz.prog Tryz.sortFc_ren := {
 mixed := by kernel_rfl
 f6 := ⟨Tryz.f60.name, by decide, Tryz.func60.trans (congrArg some (by kernel_rfl))⟩
 f14 := ⟨Tryz.f112.name, by decide, Tryz.func112.trans (congrArg some (by kernel_rfl))⟩
 f15 := Tryz.func113.trans (congrArg some (by kernel_rfl))
 f20 := ⟨Tryz.f144.name, by decide, Tryz.func144.trans (congrArg some (by kernel_rfl))⟩
 f21 := ⟨Tryz.f145.name, by decide, Tryz.func145.trans (congrArg some (by kernel_rfl))⟩
 f22 := ⟨Tryz.f146.name, by decide, Tryz.func146.trans (congrArg some (by kernel_rfl))⟩
 f23 := ⟨Tryz.f147.name, by decide, Tryz.func147.trans (congrArg some (by kernel_rfl))⟩
 f24 := ⟨Tryz.f148.name, by decide, Tryz.func148.trans (congrArg some (by kernel_rfl))⟩
 f25 := ⟨Tryz.f149.name, by decide, Tryz.func149.trans (congrArg some (by kernel_rfl))⟩
 f26 := ⟨Tryz.f150.name, by decide, Tryz.func150.trans (congrArg some (by kernel_rfl))⟩
 f27 := ⟨Tryz.f151.name, by decide, Tryz.func151.trans (congrArg some (by kernel_rfl))⟩
 f28 := Tryz.func152.trans (congrArg some (by kernel_rfl))
 f29 := Tryz.func153.trans (congrArg some (by kernel_rfl))
 f46 := ⟨Tryz.f185.name, by decide, Tryz.func185.trans (congrArg some (by kernel_rfl))⟩
 f47 := Tryz.func186.trans (congrArg some (by kernel_rfl))
 f48 := Tryz.func187.trans (congrArg some (by kernel_rfl))
 f49 := ⟨Tryz.f188.name, by decide, Tryz.func188.trans (congrArg some (by kernel_rfl))⟩
 f50 := ⟨Tryz.f189.name, by decide, Tryz.func189.trans (congrArg some (by kernel_rfl))⟩
 f57 := ⟨Tryz.f207.name, by decide, Tryz.func207.trans (congrArg some (by kernel_rfl))⟩
 t0 := Tryz.underlying0
 a0 := Tryz.isAgg0
 z0 := Tryz.sizeOf0
 v0 := Tryz.zeroValue0
 t3 := Tryz.underlying3
 a3 := Tryz.isAgg3
 z3 := Tryz.sizeOf3
 v3 := Tryz.zeroValue3
 t4 := Tryz.underlying4
 a4 := Tryz.isAgg4
 z4 := Tryz.sizeOf4
 v4 := Tryz.zeroValue4
 t5 := Tryz.underlying5
 a5 := Tryz.isAgg5
 z5 := Tryz.sizeOf5
 v5 := Tryz.zeroValue5
 t9 := Tryz.underlying9
 a9 := Tryz.isAgg9
 z9 := Tryz.sizeOf9
 v9 := Tryz.zeroValue9
 t22 := Tryz.underlying26
 a22 := Tryz.isAgg26
 z22 := Tryz.sizeOf26
 v22 := Tryz.zeroValue26
 t25 := Tryz.underlying101
 a25 := Tryz.isAgg101
 z25 := Tryz.sizeOf101
 v25 := Tryz.zeroValue101
 t39 := Tryz.underlying45
 a39 := Tryz.isAgg45
 z39 := Tryz.sizeOf45
 v39 := Tryz.zeroValue45
 t45 := Tryz.underlying177
 a45 := Tryz.isAgg177
 z45 := Tryz.sizeOf177
 v45 := Tryz.zeroValue177
 t46 := Tryz.underlying178
 a46 := Tryz.isAgg178
 z46 := Tryz.sizeOf178
 v46 := Tryz.zeroValue178
 t50 := Tryz.underlying182
 a50 := Tryz.isAgg182
 z50 := Tryz.sizeOf182
 v50 := Tryz.zeroValue182
 t53 := Tryz.underlying65
 a53 := Tryz.isAgg65
 z53 := Tryz.sizeOf65
 v53 := Tryz.zeroValue65
 t55 := Tryz.underlying186
 a55 := Tryz.isAgg186
 z55 := Tryz.sizeOf186
 v55 := Tryz.zeroValue186
 t66 := Tryz.underlying205
 a66 := Tryz.isAgg205
 z66 := Tryz.sizeOf205
 v66 := Tryz.zeroValue205
 t70 := Tryz.underlying199
 a70 := Tryz.isAgg199
 z70 := Tryz.sizeOf199
 v70 := Tryz.zeroValue199
 t76 := Tryz.underlying227
 a76 := Tryz.isAgg227
 z76 := Tryz.sizeOf227
 v76 := Tryz.zeroValue227
 t77 := Tryz.underlying228
 a77 := Tryz.isAgg228
 z77 := Tryz.sizeOf228
 v77 := Tryz.zeroValue228 }
end Go.Proofs
namespace Go.Proofs.YtpdbbglpbngeiaaGreatDoor
open Go Go.Sx Go.Proofs
set_option linter.unusedVariables false
attribute [local irreducible] Code.wp wpList wpAnyH
open Go.Vs
instance : Inhabited Fc := ⟨⟨0, [], [], [], 0, 0⟩⟩
theorem cmpInt_c (x y : Int) : Fn0 Tryz.prog 115 #[.int .i64 x, .int .i64 y] (.int .i64 (Lib.compareInt x y)) :=
  tri_of_calls (callable Tryz.func115 rfl rfl) fun v _ _ => (Tryz.cmp_Compare_int x y v.w).mono (by rintro e w' ⟨rfl, rfl⟩; exact ⟨rfl, ⟨rfl, rfl, rfl, Nat.le_refl _, fun _ _ => rfl⟩, .inr (Nat.le_refl _)⟩)
theorem cmpStr_c (x y : Str) : Fn0 Tryz.prog 71 #[str x, str y] (.int .i64 (Lib.compareBytes x y)) :=
  tri_of_calls (callable Tryz.func71 rfl rfl) fun v _ _ => (Tryz.strings_Compare ⟨x.toArray⟩ ⟨y.toArray⟩ v.w).mono (by rintro e w' ⟨rfl, rfl⟩; exact ⟨rfl, ⟨rfl, rfl, rfl, Nat.le_refl _, fun _ _ => rfl⟩, .inr (Nat.le_refl _)⟩)
/-- the first that is not 0 -/
def orF : List Int → Int
  | [] => 0
  | x :: l => if x = 0 then orF l else x
theorem orF_at : ∀ {l : List Int} {i : Nat} {x : Int}, (∀ y ∈ l.take i, y = 0) → l[i]? = some x → x ≠ 0 → orF l = x
  | [], _, _, _, h, _ => by simp at h
  | y :: l, 0, x, _, h, hx => by simp at h; subst h; simp [orF, hx]
  | y :: l, i + 1, x, h0, h, hx => by
    have hy : y = 0 := h0 y (by simp)
    rw [orF, if_pos hy]
    exact orF_at (i := i) (fun z hz => h0 z (by rw [List.take_succ_cons]; exact List.mem_cons_of_mem _ hz)) (by simpa using h) hx
theorem orF_zero : ∀ {l : List Int}, (∀ y ∈ l, y = 0) → orF l = 0
  | [], _ => rfl
  | y :: l, h => by rw [orF, if_pos (h y (by simp))]; exact orF_zero fun z hz => h z (by simp [hz])
theorem cI_neg (x y : Int) : Lib.compareInt x y < 0 ↔ x < y := by unfold Lib.compareInt; repeat' split
                                                                  all_goals omega
theorem cI_zero (x y : Int) : Lib.compareInt x y = 0 ↔ x = y := by unfold Lib.compareInt; repeat' split
                                                                   all_goals omega
theorem cS_neg : ∀ (x y : Str), Lib.compareBytes x y < 0 ↔ x < y
  | [], [] => by simp [Lib.compareBytes]
  | [], b :: y => by simp [Lib.compareBytes]
  | a :: x, [] => by simp [Lib.compareBytes]
  | a :: x, b :: y => by
    rw [Lib.compareBytes, List.cons_lt_cons_iff]
    by_cases h1 : a < b
    · rw [if_pos h1]; simp [h1]
    · by_cases h2 : b < a
      · rw [if_neg h1, if_pos h2]
        have : a ≠ b := fun e => by subst e; exact h1 h2
        simp [h1, this]
      · have e : a = b := UInt8.le_antisymm (UInt8.not_lt.1 h2) (UInt8.not_lt.1 h1)
        rw [if_neg h1, if_neg h2, cS_neg x y]; simp [e]
theorem cS_zero : ∀ (x y : Str), Lib.compareBytes x y = 0 ↔ x = y
  | [], [] => by simp [Lib.compareBytes]
  | [], b :: y => by simp [Lib.compareBytes]
  | a :: x, [] => by simp [Lib.compareBytes]
  | a :: x, b :: y => by
    rw [Lib.compareBytes]
    by_cases h1 : a < b
    · rw [if_pos h1]
      have : a ≠ b := fun e => by subst e; exact absurd h1 (UInt8.lt_irrefl a)
      simp [this]
    · by_cases h2 : b < a
      · rw [if_neg h1, if_pos h2]
        have : a ≠ b := fun e => by subst e; exact h1 h2
        simp [this]
      · have e : a = b := UInt8.le_antisymm (UInt8.not_lt.1 h2) (UInt8.not_lt.1 h1)
        rw [if_neg h1, if_neg h2, cS_zero x y]; simp [e]
/-- what compare computes -/
def cmpF (x y : Fc) : Int := orF [Lib.compareInt x.kind y.kind, Lib.compareBytes x.a y.a, Lib.compareBytes x.b y.b, Lib.compareBytes x.r y.r, Lib.compareInt x.lo y.lo, Lib.compareInt x.hi y.hi]
theorem orF_neg (x : Int) (l : List Int) : orF (x :: l) < 0 ↔ x < 0 ∨ x = 0 ∧ orF l < 0 := by
  rw [orF]; split <;> omega
theorem cmpF_neg (x y : Fc) : cmpF x y < 0 ↔ x.lt y := by
  unfold cmpF Fc.lt
  rw [orF_neg, orF_neg, orF_neg, orF_neg, orF_neg, orF_neg]
  simp only [cI_neg, cI_zero, cS_neg, cS_zero, orF, Int.lt_irrefl, and_false, or_false]
theorem orF_c (l : List Int) (ad : Option Addr) (cap : Nat) (hl : l.length ≤ 1000) : Tri Tryz.prog 114 #[.slice ad (List.length l) cap] [] [rowF ad (List.flatMap intC l)] (fun _ : Unit => .int .i64 (orF l)) (fun _ => []) (fun _ => []) := by
  refine tri_of_body Tryz.func114 rfl rfl Tryz.ntmps114 rfl fun v0 => ?_
  refine run_seq (run_region (ops_val (yld_assign rfl) rfl (ops_nil (fin_next rfl (run_seq (run_region (ops_val (yld_assign rfl) rfl ?_)))))))
  refine ops_nil (fin_next rfl (run_seq (run_seq (run_region (ops_val (yld_move rfl) rfl (ops_val (yld_lenS Tryz.runUnderlying58 rfl) rfl ?_))))))
  refine ops_val (yld_move rfl) rfl (ops_nil (fin_next rfl (run_block (ok_fr [(3, .int .i64 0), (6, .slice ad (List.length l) cap), (7, .int .i64 (List.length l : Int)), (8, .int .i64 ((0 : Nat) : Int))] ⟨rfl, rfl, rfl, rfl, trivial⟩ ?_))))
  refine run_loop (ι := {y : Nat // y ≤ l.length ∧ ∀ z ∈ l.take y, z = 0}) (fun y => [(3, .int .i64 0), (6, .slice ad (List.length l) cap), (7, .int .i64 (List.length l : Int)), (8, .int .i64 (y.1 : Int))]) (fun y => ([])) (fun y => [rowF ad (List.flatMap intC l)]) (fun y => l.length - y.1) ⟨(0 : Nat), by simp, by simp⟩ ?_
  rintro ⟨i, hi, h0⟩
  dsimp only at hi h0 ⊢
  refine ok_fr [(3, .int .i64 0), (6, .slice ad (List.length l) cap), (7, .int .i64 (List.length l : Int)), (8, .int .i64 (i : Int))] ⟨rfl, rfl, rfl, rfl, trivial⟩ ?_
  refine run_seq (run_region (ops_valB (yld_lss rfl rfl) rfl fun r1 hr1 => ?_))
  refine ops_nil (fin_next rfl (run_seq ?_))
  cases r1
  · skip
    replace hr1 := of_decide_eq_false hr1
    refine run_cond_f rfl (run_exit rfl (fin_next rfl (run_seq (run_region (ops_val (yld_move rfl) rfl (ops_val (yld_assign rfl) rfl (ops_nil ?_)))))))
    refine fin_next rfl (run_ret ?_)
    exact ret1 Tryz.results114 () (get_int rfl (orF_zero fun y hy => h0 y (by rw [List.take_of_length_le (by omega)]; exact hy)).symm) pf_nil (fun _ _ _ => trivial)
  · skip
    replace hr1 := of_decide_eq_true hr1
    have hlx1 : i < List.length l := by omega
    obtain ⟨x1, hx1⟩ : ∃ e0, l[i]? = some e0 := ⟨_, List.getElem?_eq_getElem hlx1⟩
    have hmx1 : x1 ∈ l := List.mem_of_getElem? hx1
    refine run_cond_t rfl (run_skip (fin_next rfl (run_seq (run_block (run_seq (run_region (ops_val (yld_indexR Tryz.runUnderlying58 Tryz.sizeOf3 rfl rfl (fun v _ h => row_adr (n := 1) intC_len (by decide) (by exact h.1) hx1) (by omega) (by first | omega | (simp; done))) rfl ?_)))))))
    refine ops_val (yld_loadR (ad := ad) Tryz.isAgg3 rfl (fun v _ h => by exact h.1) (row_cells intC_len hx1 0 _ rfl)) rfl ?_
    refine ops_val (yld_assign rfl) rfl (ops_nil (fin_next rfl (run_seq (run_region (ops_val (yld_move rfl) rfl (ops_val (yld_move rfl) rfl (ops_valB (yld_neq rfl rfl) rfl fun r2 hr2 => ?_)))))))
    refine ops_nil (fin_next rfl ?_)
    cases r2
    · skip
      replace hr2 := eq_of_bne hr2
      refine run_cond_f rfl (run_skip (fin_next rfl (run_region (ops_val (yld_arith rfl rfl rfl (wrap64 (by omega) (by omega))) rfl ?_))))
      refine ops_val (yld_move rfl) rfl (ops_nil (fin_inv rfl ?_))
      exact ok_again ⟨i + 1, hlx1, fun y hy => by rw [List.take_add_one, hx1] at hy; simp only [Option.toList_some, List.mem_append, List.mem_singleton] at hy; rcases hy with hy | rfl; exact h0 y hy; omega⟩ (by dsimp only; omega) ⟨rfl, rfl, rfl, rfl, trivial⟩ pf_nil (fun v _ h => by exact ⟨h.1, trivial⟩)
    · skip
      replace hr2 := ne_of_bne hr2
      refine run_cond_t rfl (run_seq (run_region (ops_val (yld_move rfl) rfl (ops_val (yld_assign rfl) rfl (ops_nil (fin_next rfl (run_ret ?_)))))))
      exact ret1 Tryz.results114 () (get_int rfl (orF_at h0 hx1 (by assumption)).symm) pf_nil (fun _ _ _ => trivial)
theorem cmpF_c (x y : Fc) : Fn0 Tryz.prog 61 #[Fc.val x, Fc.val y] (.int .i64 (cmpF x y)) := by
 refine tri_of_body Tryz.func61 rfl rfl Tryz.ntmps61 rfl fun v0 => ?_
 refine run_seq (run_region (ops_box rfl rfl fun b1 => ?_))
 refine ops_box rfl rfl fun b2 => ?_
 refine ops_val (yld_assign rfl) rfl (ops_nil (fin_next rfl (run_seq ?_)))
 refine run_draw' (by kernel_rfl) ?_
 refine any_sq 9 [0, 1, 2, 3, 5, 6, 7, 8, 10, 11, 12, 13, 15, 16, 17, 18, 20, 21, 22, 23, 25, 26, 27, 28] (by kernel_rfl) (fun _ a b => ⟨a, b⟩) ?_
 refine sq_val rfl (yld_field Tryz.runUnderlying41 rfl rfl rfl Tryz.sizeOf3) rfl ?_
 refine sq_val rfl (yld_load 1 Tryz.isAgg3 rfl rfl rfl) rfl ?_
 refine sq_val rfl (yld_field Tryz.runUnderlying41 rfl rfl rfl Tryz.sizeOf3) rfl ?_
 refine sq_val rfl (yld_load 0 Tryz.isAgg3 rfl rfl rfl) rfl ?_
 refine sq_val rfl (yld_field Tryz.runUnderlying41 rfl rfl rfl Tryz.sizeOf9) rfl ?_
 refine sq_val rfl (yld_load 1 Tryz.isAgg9 rfl rfl rfl) rfl ?_
 refine sq_val rfl (yld_field Tryz.runUnderlying41 rfl rfl rfl Tryz.sizeOf9) rfl ?_
 refine sq_val rfl (yld_load 0 Tryz.isAgg9 rfl rfl rfl) rfl ?_
 refine sq_val rfl (yld_field Tryz.runUnderlying41 rfl rfl rfl Tryz.sizeOf9) rfl ?_
 refine sq_val rfl (yld_load 1 Tryz.isAgg9 rfl rfl rfl) rfl ?_
 refine sq_val rfl (yld_field Tryz.runUnderlying41 rfl rfl rfl Tryz.sizeOf9) rfl ?_
 refine sq_val rfl (yld_load 0 Tryz.isAgg9 rfl rfl rfl) rfl ?_
 refine sq_val rfl (yld_field Tryz.runUnderlying41 rfl rfl rfl Tryz.sizeOf9) rfl ?_
 refine sq_val rfl (yld_load 1 Tryz.isAgg9 rfl rfl rfl) rfl ?_
 refine sq_val rfl (yld_field Tryz.runUnderlying41 rfl rfl rfl Tryz.sizeOf9) rfl ?_
 refine sq_val rfl (yld_load 0 Tryz.isAgg9 rfl rfl rfl) rfl ?_
 refine sq_val rfl (yld_field Tryz.runUnderlying41 rfl rfl rfl Tryz.sizeOf3) rfl ?_
 refine sq_val rfl (yld_load 1 Tryz.isAgg3 rfl rfl rfl) rfl ?_
 refine sq_val rfl (yld_field Tryz.runUnderlying41 rfl rfl rfl Tryz.sizeOf3) rfl ?_
 refine sq_val rfl (yld_load 0 Tryz.isAgg3 rfl rfl rfl) rfl ?_
 refine sq_val rfl (yld_field Tryz.runUnderlying41 rfl rfl rfl Tryz.sizeOf3) rfl ?_
 refine sq_val rfl (yld_load 1 Tryz.isAgg3 rfl rfl rfl) rfl ?_
 refine sq_val rfl (yld_field Tryz.runUnderlying41 rfl rfl rfl Tryz.sizeOf3) rfl ?_
 refine sq_val rfl (yld_load 0 Tryz.isAgg3 rfl rfl rfl) rfl ?_
 refine sq_nil ?_
 refine any_one 4 rfl (by kernel_rfl) ?_
 refine ops_call (cmpInt_c (Fc.kind x) (Fc.kind y)) rfl pf_nil (fun _ _ _ => by exact trivial) rfl fun _ => ?_
 refine ops_nil (fin_inv rfl (any_next (fun _ a b => ⟨a, b⟩) ?_))
 refine any_one 9 rfl (by kernel_rfl) ?_
 refine ops_call (cmpStr_c (Fc.a x) (Fc.a y)) rfl pf_nil (fun _ _ _ => by exact trivial) rfl fun _ => ?_
 refine ops_nil (fin_inv rfl (any_next (fun _ a b => ⟨a, b⟩) ?_))
 refine any_one 14 rfl (by kernel_rfl) ?_
 refine ops_call (cmpStr_c (Fc.b x) (Fc.b y)) rfl pf_nil (fun _ _ _ => by exact trivial) rfl fun _ => ?_
 refine ops_nil (fin_inv rfl (any_next (fun _ a b => ⟨a, b⟩) ?_))
 refine any_one 19 rfl (by kernel_rfl) ?_
 refine ops_call (cmpStr_c (Fc.r x) (Fc.r y)) rfl pf_nil (fun _ _ _ => by exact trivial) rfl fun _ => ?_
 refine ops_nil (fin_inv rfl (any_next (fun _ a b => ⟨a, b⟩) ?_))
 refine any_one 24 rfl (by kernel_rfl) ?_
 refine ops_call (cmpInt_c (Fc.lo x) (Fc.lo y)) rfl pf_nil (fun _ _ _ => by exact trivial) rfl fun _ => ?_
 refine ops_nil (fin_inv rfl (any_next (fun _ a b => ⟨a, b⟩) ?_))
 refine any_one 29 rfl (by kernel_rfl) ?_
 refine ops_call (cmpInt_c (Fc.hi x) (Fc.hi y)) rfl pf_nil (fun _ _ _ => by exact trivial) rfl fun _ => ?_
 refine ops_nil (fin_inv rfl (any_next (fun _ a b => ⟨a, b⟩) ?_))
 refine any_one 30 rfl (by kernel_rfl) ?_
 refine ops_slit Tryz.runUnderlying58 Tryz.sizeOf3 Tryz.zeroValue3 rfl rfl rfl rfl rfl rfl fun b3 => ?_
 refine ok_giveR (List.flatMap intC [(Lib.compareInt (Fc.kind x) (Fc.kind y)), (Lib.compareBytes (Fc.a x) (Fc.a y)), (Lib.compareBytes (Fc.b x) (Fc.b y)), (Lib.compareBytes (Fc.r x) (Fc.r y)), (Lib.compareInt (Fc.lo x) (Fc.lo y)), (Lib.compareInt (Fc.hi x) (Fc.hi y))]) pf_here rfl ?_
 refine ops_nil (fin_inv rfl (any_next (fun _ a b => ⟨a, b.2⟩) ?_))
 refine any_one 31 rfl (by kernel_rfl) ?_
 refine ops_call (orF_c [(Lib.compareInt (Fc.kind x) (Fc.kind y)), (Lib.compareBytes (Fc.a x) (Fc.a y)), (Lib.compareBytes (Fc.b x) (Fc.b y)), (Lib.compareBytes (Fc.r x) (Fc.r y)), (Lib.compareInt (Fc.lo x) (Fc.lo y)), (Lib.compareInt (Fc.hi x) (Fc.hi y))] (some ⟨b3, 0, none⟩) 6 (by simp)) rfl pf_nil (fun v _ h => by exact ⟨h.1, trivial⟩) rfl fun _ => ?_
 refine ops_nil (fin_inv rfl (any_next (fun _ a b => ⟨a, b.2⟩) ?_))
 refine any_sq 0 [32] (by kernel_rfl) (fun _ a b => ⟨a, b.2⟩) ?_
 refine sq_val rfl (yld_assign rfl) rfl ?_
 refine sq_nil ?_
 refine any_done (by kernel_rfl) ?_
 refine fin_next rfl (run_ret ?_)
 exact ret1 Tryz.results61 () (get_int rfl (by rfl)) pf_nil (fun _ _ _ => trivial)
end Go.Proofs.YtpdbbglpbngeiaaGreatDoor
namespace Go.Proofs.YtpdbbglpbngeiaaGreatDoor
open Go Go.Sx Go.Proofs
set_option linter.unusedVariables false
attribute [local irreducible] Code.wp wpList wpAnyH
open Go.Vs
theorem dT {p : Prop} {i : Decidable p} (h : @decide p i = true) : p := of_decide_eq_true h
theorem dF {p : Prop} {i : Decidable p} (h : @decide p i = false) : ¬ p := of_decide_eq_false h
/-- a closure -/
structure Cl where
  atoms : List Str
  aad : Option Addr
  acap : Nat
  facts : List Fc
  fad : Option Addr
  fcap : Nat
def Cl.cells (c : Cl) : List Value := [.slice c.aad c.atoms.length c.acap, .slice c.fad c.facts.length c.fcap]
theorem Cl.cells_len (c : Cl) : c.cells.length = 2 := rfl
def Cl.val (c : Cl) : Value := .agg c.cells.toArray
/-- what lasts of a closure -/
def Cl.row (c : Cl) : List Fct := [rowF c.aad (List.flatMap strC c.atoms), rowF c.fad (List.flatMap Fc.cells c.facts)]
def Cl.no : Cl := Cl.mk [] none 0 [] none 0
structure Cl.ok (c : Cl) : Prop where
  al : c.atoms.length ≤ c.acap
  am : c.acap ≤ maxLen
  az : c.aad = none → c.acap = 0
  fl : c.facts.length ≤ c.fcap
  fm : c.fcap ≤ maxLen
  fz : c.fad = none → c.fcap = 0
theorem Cl.no_ok : Cl.no.ok := ⟨Nat.le_refl _, by simp [Cl.no], fun _ => rfl, Nat.le_refl _, by simp [Cl.no], fun _ => rfl⟩
theorem role_ne {s : Str} (h : roleS s = true) : s ≠ [] := fun e => by subst e; revert h; decide
theorem person_ne {s : Str} (h : personS s = true) : s ≠ [] := fun e => by subst e; revert h; decide
theorem valid_vok {p : Pc} (h : p.valid = true) : p.vok := by
  unfold Pc.valid at h
  split at h
  · simp at h
  rename_i h1
  split at h
  · simp at h
  rename_i h2
  split at h
  · simp at h
  have hk : p.kind = 1 ∨ p.kind = 2 ∨ p.kind = 3 ∨ p.kind = 4 ∨ p.kind = 5 ∨ p.kind = 6 ∨ p.kind = 7 ∨ p.kind = 8 ∨ p.kind = 9 := by omega
  have hn : ∀ {b : Bool} {s : Str}, fldS b s roleS = true → b = true → s ≠ [] := fun h1 h2 => by
    subst h2; simp [fldS] at h1; exact role_ne h1
  have hn' : ∀ {b : Bool} {s : Str}, fldS b s personS = true → b = true → s ≠ [] := fun h1 h2 => by
    subst h2; simp [fldS] at h1; exact person_ne h1
  simp only [Bool.and_eq_true] at h
  obtain ⟨⟨⟨⟨⟨_, _⟩, _⟩, hr⟩, hs⟩, ht⟩ := h
  unfold Pc.rok at *
  refine ⟨⟨fun q => ?_, fun q => ?_, fun q => ?_⟩, fun q => ?_⟩
  · rcases q with q | q | q | q | q | q | q <;> rw [q] at hr
    · exact hn hr (by decide)
    · exact hn hr (by decide)
    · exact hn hr (by decide)
    · exact hn' hr (by decide)
    · exact hn hr (by decide)
    · exact hn hr (by decide)
    · exact hn' hr (by decide)
  · rw [q] at hs ht; exact ⟨hn hs (by decide), hn ht (by decide)⟩
  · rw [q] at ht; exact hn ht (by decide)
  · rcases q with q | q <;> rw [q] at h2 <;> have : (nus 8).numbers = true ∧ (nus 9).numbers = true := by decide
    all_goals simp only [this.1, this.2, true_and] at h2; omega
theorem check_ok {p : List Pc} (h : checkP p = 0) : p.length ≤ 16384 ∧ p.all Pc.valid = true := by
  unfold checkP at h
  split at h
  · simp at h
  · split at h
    · exact ⟨by omega, by assumption⟩
    · simp at h
theorem check_vok {p : List Pc} (h : checkP p = 0) : ∀ x ∈ p, x.vok := fun x hx => valid_vok (List.all_eq_true.1 (check_ok h).2 x hx)
section
variable {P : Program} {N : Nat} {v0 : Vw} {H0 : Hp} {fr : Fr} {H F Ha Hu Ho Hi Hr Hm Hs : Hp} {Γ : List Fct}
theorem res_ct {fn : Func} {t s b n : Nat} {ty T : TypeId} {us : List Value} {u : Value} (i : Nat) (hr : fn.results = #[.cell t ty, .tmp s]) (ha : ∀ w, (isAgg ty).run P w = .ok true w) (hs : ∀ w, (sizeOf ty).run P w = .ok n w) (hn : us.length = n) (hx : Fr.get fr t = some (.pointer (some ⟨b, 0, none⟩))) (hu : Fr.get fr s = some u)
    (hi : H[i]? = some (b, .cells us.toArray T (0, 0))) (a : Act) (v : Vw) (h1 : Fr.sat N fr a) (h2 : v.sat H) : (results fn a.tmps).run P v.w = .ok (.tuple #[.agg us.toArray, u]) v.w := by
  have e := h1.val t _ hx
  have e2 := h1.val s _ hu
  have hl := run_loadVar_agg (t := ty) (w := v.w) (b := b) (off := 0) ha hs hn (fun j y hj => by rw [Nat.zero_add, own_cell h2 hi]; simpa using hj)
  simp [results, hr, e, e2, asAddr, hl]
theorem pf_six (h : H.Perm ((Ha ++ (Hu ++ (Ho ++ (Hi ++ (Hr ++ (Hm ++ Hs)))))) ++ F)) : H.Perm (((Ha ++ (Hu ++ (Ho ++ (Hi ++ (Hr ++ Hm))))) ++ Hs) ++ F) := by simpa [List.append_assoc] using h
theorem pf_sixR : (((Ha ++ (Hu ++ (Ho ++ (Hi ++ (Hr ++ Hm))))) ++ Hs) ++ F).Perm (Ha ++ (Hu ++ (Ho ++ (Hi ++ (Hr ++ (Hm ++ (Hs ++ F))))))) := by simp [List.append_assoc]
theorem pf_sixQ {a b c : Nat × Obj} {Hq : Hp} : ((Ha ++ (Hu ++ (Ho ++ (Hi ++ (Hr ++ (Hm ++ (a :: b :: ([c] ++ Hq)))))))) ++ F).Perm (Ha ++ (Hu ++ (Ho ++ (Hi ++ (Hr ++ (Hm ++ (a :: b :: ([c] ++ (Hq ++ F))))))))) := by simp [List.append_assoc]
end
theorem strt28 : Strt Tryz.prog 28 [(0, 1), (1, 1)] [.slice none 0 0, .slice none 0 0] := ⟨_, Tryz.zeroValue28, Tryz.runUnderlying28, fun w => by simp [Tryz.sizeOf25, Tryz.sizeOf26]⟩
end Go.Proofs.YtpdbbglpbngeiaaGreatDoor
namespace Go.Proofs.YtpdbbglpbngeiaaGreatDoor
open Go Go.Sx Go.Proofs
set_option linter.unusedVariables false
attribute [local irreducible] Code.wp wpList wpAnyH
open Go.Vs Go.ChangeShapes Go.WideShapes Go.ChangeAt Go.RowKit
theorem own : ownKnob Tryz.prog.godebug = none := by kernel_rfl
def laidL : List (String × DataW Unit) := [("unicode/utf8.acceptRanges", Rows.laid_unicode_utf8_acceptRanges), ("veilstone/normal.uses", Rows.laid_veilstone_normal_uses), ("unicode/utf8.first", Rows.laid_unicode_utf8_first)]
theorem kids : Kids Tryz.prog (· < Tryz.prog.types.size) := kids_rows (by kernel_rfl) (by kernel_rfl)
theorem full : ∀ t e, t < Tryz.prog.types.size → Tryz.prog.underlying t = some (.slice e) → 0 < Tryz.prog.cellsOf e := slices_full_of _ (by kernel_rfl)
theorem nTypes : Tryz.prog.types.size = 292 := by kernel_rfl
theorem tysX : Tys Tryz.prog 3 4 9 25 132 130 134 75 47 22 where
  i := Tryz.underlying3
  b := Tryz.underlying4
  s := Tryz.underlying9
  ss := Tryz.underlying25
  c := ⟨_, Tryz.underlying132, rfl⟩
  cs := Tryz.underlying130
  a := ⟨_, Tryz.underlying134, rfl⟩
  axs := Tryz.underlying75
  p := ⟨_, Tryz.underlying47, rfl⟩
  ps := Tryz.underlying22
  ci := by kernel_rfl
  cb := by kernel_rfl
  cs1 := by kernel_rfl
  css := by kernel_rfl
  cc := by kernel_rfl
  ccs := by kernel_rfl
  ca := by kernel_rfl
  cp := by kernel_rfl
  bs := by kernel_rfl
  bc := by kernel_rfl
  ba := by kernel_rfl
  bp := by kernel_rfl
theorem tab_normal_uses {W : World} (h : laidMetH Tryz.prog laidL W) : ∃ T fz, W.heap[0]? = some (.cells (plainV (H := Unit) Rows.laid_veilstone_normal_uses).toArray T fz) := by
  rw [MakeChecks.laidMetH_plain _ _ _ (by kernel_rfl)] at h
  exact table_of kids (name := "veilstone/normal.uses") h (by simp [laidL]) (g := 0) (t := 153) (by kernel_rfl) (by kernel_rfl) (by rw [nTypes]; decide) (m := 4) (by kernel_rfl)
theorem row_tab {W : World} {g : Nat} {l : List Value} {d : List Value} (h : ∃ T fz, W.heap[g]? = some (.cells l.toArray T fz)) (e : l = d) : RowAt (vw W) (some ⟨g, 0, none⟩) d := by
  obtain ⟨T, fz, h⟩ := h
  subst e
  exact .inr ⟨g, 0, _, T, fz, rfl, (Array.getElem?_eq_some_iff.1 h).1, h, fun j x hj => by rw [Nat.zero_add]; simpa using hj⟩
theorem tabN_of {W : World} (h : laidMetH Tryz.prog laidL W) : tabN.p (vw W) := row_tab (tab_normal_uses h) (by kernel_rfl)
end Go.Proofs.YtpdbbglpbngeiaaGreatDoor
namespace Go.Proofs.YtpdbbglpbngeiaaGreatDoor
open Go Go.Sx Go.Proofs
set_option linter.unusedVariables false
attribute [local irreducible] Code.wp wpList wpAnyH
open Go.Vs Go.Shelf Go.RowKit
theorem world_grown {v v' : Vw} (h : v.to [] v' []) (hs : ¬ v.sl) : ∃ q os, v'.w = Sort.grow (v.w.drewN q) os := by
  have hd : v.w.drawn ≤ v'.w.drawn := h.dr.resolve_left hs
  refine ⟨v'.w.drawn - v.w.drawn, v'.w.heap.extract v.w.heap.size v'.w.heap.size, ?_⟩
  have hh : v'.w.heap = v.w.heap ++ v'.w.heap.extract v.w.heap.size v'.w.heap.size := by
    apply Array.ext_getElem?
    intro i
    have hsz := h.size
    rw [Array.getElem?_append]
    split
    · rename_i hi; exact h.block i hi (by simp)
    · rename_i hi
      rw [Array.getElem?_extract]
      split
      · congr 1; omega
      · rw [Array.getElem?_eq_none (by omega)]
  have e1 := h.os; have e2 := h.tape; have e3 := h.output
  obtain ⟨im', ⟨hp, tp, dn, os', ou⟩, sl'⟩ := v'
  simp only at e1 e2 e3 hh hd
  simp only [Sort.grow, World.drewN, World.mk.injEq]
  exact ⟨hh, e2, by omega, e1, e3⟩
theorem cmpLays (blk off size : Nat) (w : World) : CmpLays Tryz.prog 61 #[] Fc.cells 6 cmpF blk off size w := fun m os dk _ x y => by
  have h := (cmpF_c x y).run ⟨fun _ => False, sortWorldK Fc.cells 6 w blk off m dk os, False⟩ ⟨by simp, by simp, fun _ h => h.elim⟩ trivial
  refine h.mono ?_
  rintro e w' ⟨_, v', rfl, rfl, _, _, ht⟩
  obtain ⟨q, os', hw⟩ := world_grown ht (fun h => h)
  exact ⟨rfl, q, os', hw⟩
theorem ltF (x y : Fc) : ltOf cmpF x y = decide (x.lt y) := by unfold ltOf; rw [decide_eq_decide]; exact cmpF_neg x y
theorem swoF : Sort.SWO (ltOf cmpF) where
  irrefl x := by rw [ltF]; exact decide_eq_false (Fc.lt_irr x)
  trans x y z h1 h2 := by rw [ltF, decide_eq_true_eq] at *; exact Fc.lt_trans h1 h2
  ntrans x y z h1 h2 := by
    rw [ltF, decide_eq_false_iff_not] at *
    intro h
    rcases Fc.lt_tri x y with g | g | g
    · exact h1 g
    · subst g; exact h2 h
    · exact h2 (Fc.lt_trans g h)
theorem totF (x y : Fc) (h1 : ltOf cmpF x y = false) (h2 : ltOf cmpF y x = false) : x = y := by
  rw [ltF, decide_eq_false_iff_not] at h1 h2
  rcases Fc.lt_tri x y with g | g | g
  · exact absurd g h1
  · exact g
  · exact absurd g h2
theorem flatK_list (xs : List Fc) : Sort.flatK Fc.cells 6 xs.toArray = (xs.flatMap Fc.cells).toArray := by
  apply Array.ext_getElem?
  intro t
  have e0 : (xs.flatMap Fc.cells).toArray[t]? = (xs.flatMap Fc.cells)[t]? := by simp
  rw [e0]
  by_cases ht : t < xs.length * 6
  · have hd : t / 6 < xs.length := by omega
    have := fm_get Fc.cells 6 Fc.cells_len xs (t / 6) (t % 6) xs[t / 6] (List.getElem?_eq_getElem hd) (Nat.mod_lt _ (by decide))
    rw [show t / 6 * 6 + t % 6 = t by omega] at this
    rw [this]
    simp only [Sort.flatK, Array.getElem?_map, List.size_toArray]
    rw [Array.getElem?_eq_getElem (by simpa using ht)]
    simp only [Array.getElem_range, Option.map_some]
    rw [getElem!_pos xs.toArray (t / 6) (by simpa using hd)]
    have hl : t % 6 < (Fc.cells xs[t / 6]).length := by rw [Fc.cells_len]; omega
    rw [List.getElem?_eq_getElem hl]
    simp only [List.getElem_toArray]
    rw [getElem!_pos (Fc.cells xs[t / 6]) (t % 6) hl]
  · rw [List.getElem?_eq_none (by rw [fm_len Fc.cells 6 Fc.cells_len]; omega), Array.getElem?_eq_none (by simp [Sort.flatK]; omega)]
theorem tri_of_putV {P : Program} {Γ : List Fct} {f : FuncId} {args : Array Value} {r : Value} {g : Nat} {cur : Array Value} {T : TypeId} {d : Array Value} (hc : Callable P f)
    (h : ∀ v : Vw, v.sat [(g, .cells cur T (0, 0))] → Calls P f args v.w fun e w' => e = .returned r ∧ ∃ n os, w' = Sort.grow (Sort.putRow id (Sort.ahead v.w n) g 0 d) os) :
    Tri P f args [(g, .cells cur T (0, 0))] Γ (fun _ : Unit => r) (fun _ => [(g, .cells (Sort.putCells id 0 d cur) T (0, 0))]) (fun _ => []) :=
  ⟨hc, fun v h1 _ => (h v h1).mono fun e w' ⟨he, n, os, hw⟩ => by
    have hg := (h1.own _ List.mem_cons_self)
    have hlt : g < v.w.heap.size := (Array.getElem?_eq_some_iff.1 hg.1).1
    have hb : ∀ b, b < v.w.heap.size → w'.heap[b]? = if b = g then some (.cells (Sort.putCells id 0 d cur) T (0, 0)) else v.w.heap[b]? := fun b hb => by
      rw [hw]
      simp only [Sort.grow, Sort.putRow, Sort.mapBlock, Sort.ahead]
      rw [Array.getElem?_append_left (by simpa using hb), Array.getElem?_modify]
      by_cases e : b = g
      · subst e
        simp only [if_true, hg.1, Option.map_some, Sort.onCells]
      · rw [if_neg (fun q => e q.symm), if_neg e]
    have hsz : v.w.heap.size ≤ w'.heap.size := by rw [hw]; simp [Sort.grow, Sort.putRow, Sort.mapBlock, Sort.ahead]
    refine ⟨(), ⟨v.im, w', v.sl⟩, he, rfl, ⟨fun p hp => ?_, by simp, fun b hbb => Nat.lt_of_lt_of_le (h1.lt b hbb) hsz⟩, trivial, ⟨by rw [hw]; rfl, by rw [hw]; rfl, by rw [hw]; rfl, hsz, fun b hbb hn => ?_, fun _ h => h, fun _ h => .inl h, fun b hm => .inl (by simpa using hm), rfl, .inr (by rw [hw]; exact Nat.le_add_right _ _)⟩⟩
    · simp only [List.mem_singleton] at hp
      subst hp
      exact ⟨by show w'.heap[g]? = _; rw [hb g hlt, if_pos rfl], hg.2⟩
    · have hn' : b ≠ g := by simpa using hn
      show w'.heap[b]? = _
      rw [hb b hbb, if_neg hn']⟩
theorem putV_take {cur : Array Value} {d : List Value} (hs : d.length ≤ cur.size) : (Sort.putCells id 0 d.toArray cur).toList.take d.length = d := by
  apply List.ext_getElem?
  intro j
  rw [List.getElem?_take]
  split
  · rename_i hj
    simp only [Sort.putCells, Array.getElem?_toList, Array.getElem?_mapIdx]
    rw [Array.getElem?_eq_getElem (by omega)]
    simp only [Option.map_some, Nat.zero_le, true_and, Nat.zero_add, List.size_toArray, hj, if_true, Nat.sub_zero]
    rw [List.getElem?_eq_getElem hj, getElem!_pos d.toArray j (by simpa using hj)]
    rfl
  · rename_i hj
    rw [List.getElem?_eq_none (by omega)]
theorem putV_size {cur d : Array Value} : (Sort.putCells id 0 d cur).size = cur.size := by simp [Sort.putCells]
theorem holdsV {g : Nat} {cur : Array Value} {T : TypeId} {xs : List Value} {v : Vw} (hs : v.sat [(g, .cells cur T (0, 0))]) (ht : cur.toList.take xs.length = xs) : Sort.Holds id v.w g 0 xs.toArray := by
  intro j hj
  have hb := (hs.own _ List.mem_cons_self).1
  simp only [List.size_toArray] at hj
  have hc : cur[j]? = some xs[j] := by
    have := congrArg (fun l => l[j]?) ht
    simp only [List.getElem?_take, hj, if_true, Array.getElem?_toList] at this
    rw [this, List.getElem?_eq_getElem hj]
  refine ⟨?_, ?_⟩
  · simp only [World.cell?, Nat.zero_add, hb, Option.isSome_none, Bool.false_eq_true, if_false]
    rw [hc, getElem!_pos xs.toArray j (by simpa using hj)]
    rfl
  · simp [World.frozen?, hb]
/-- facts in order -/
def srtF (xs : List Fc) : List Fc := xs.mergeSort fun x y => !(ltOf cmpF) y x
theorem srtF_len (xs : List Fc) : (srtF xs).length = xs.length := List.length_mergeSort _
theorem srtF_mem (xs : List Fc) (x : Fc) : x ∈ srtF xs ↔ x ∈ xs := List.mem_mergeSort
theorem srtF_srt {xs : List Fc} (h : xs.Nodup) : Srt (srtF xs) := by
  have h1 : (srtF xs).Pairwise fun x y => (!(ltOf cmpF) y x) = true := List.pairwise_mergeSort
    (fun a b c h1 h2 => by simp only [Bool.not_eq_true'] at *; exact swoF.ntrans c b a h2 h1)
    (fun a b => by
      simp only [Bool.or_eq_true, Bool.not_eq_true']
      rw [ltF, ltF, decide_eq_false_iff_not, decide_eq_false_iff_not]
      rcases Fc.lt_tri a b with g | g | g
      · exact .inl fun q => Fc.lt_irr a (Fc.lt_trans g q)
      · subst g; exact .inl (Fc.lt_irr a)
      · exact .inr fun q => Fc.lt_irr a (Fc.lt_trans q g)) xs
  have h2 : (srtF xs).Nodup := (List.mergeSort_perm xs _).nodup_iff.2 h
  refine (h1.and h2).imp ?_
  rintro x y ⟨a, b⟩
  simp only [Bool.not_eq_true', ltF, decide_eq_false_iff_not] at a
  rcases Fc.lt_tri x y with g | g | g
  · exact g
  · exact absurd g b
  · exact absurd g a
/-- a row of facts is sorted -/
theorem sortF_c {sv : Value} {xs : List Fc} {Hr : Hp} (h : SRow 41 6 sv xs.length (xs.flatMap Fc.cells) Hr) (hl : xs.length ≤ 1000000000000) :
    Tri Tryz.prog 60 #[sv, .func (.func 61) #[] #[]] Hr [] (fun _ : {y : Hp // SRow 41 6 sv (srtF xs).length ((srtF xs).flatMap Fc.cells) y} => .tuple #[]) (fun y => y.1) (fun _ => []) := by
  rcases h.2 with ⟨rfl, h2, rfl⟩ | ⟨g, cap, cur, rfl, rfl, h3, h4, h5, h6⟩
  · obtain rfl : xs = [] := List.eq_nil_of_length_eq_zero h2
    have T := tri_of_calls (P := Tryz.prog) (H := []) (Γ := []) (callable Tryz.func60 rfl rfl) (fun v _ _ => (AnyF.slices_SortFunc_none Tryz.sortFc none 0 (.func (.func 61) #[] #[]) v.w).mono (by rintro e w' ⟨rfl, rfl⟩; exact ⟨rfl, ⟨rfl, rfl, rfl, Nat.le_refl _, fun _ _ => rfl⟩, .inr (Nat.le_refl _)⟩))
    exact ⟨T.callable, fun v a b => (T.run v a b).mono (by rintro e w' ⟨x, v', e1, e2, e3, e4, e5⟩; exact ⟨⟨[], by simpa [srtF] using SRow.nil _ _⟩, v', e1, e2, e3, e4, e5⟩)⟩
  · have hx : (xs.flatMap Fc.cells).length = xs.length * 6 := fm_len Fc.cells 6 Fc.cells_len xs
    have T := tri_of_putV (P := Tryz.prog) (Γ := []) (r := .tuple #[]) (g := g) (cur := cur) (T := 41) (d := ((srtF xs).flatMap Fc.cells).toArray) (f := 60) (args := #[.slice (some ⟨g, 0, none⟩) xs.length cap, .func (.func 61) #[] #[]]) (callable Tryz.func60 rfl rfl) (fun v hs => by
      have hh := AnyQ.slices_SortFunc_total Tryz.sortFc 6 Tryz.isAgg41 Tryz.sizeOf41 Fc.cells Fc.cells_len (fun x u hu => List.all_eq_true.1 (Fc.cells_one x) u hu) cmpF swoF 61 #[] g 0 cap xs.toArray v.w (fun args w => (callable Tryz.func61 rfl rfl) args w) (cmpLays g 0 _ v.w) (by unfold Sort.HoldsK; rw [flatK_list]; exact holdsV hs (by rw [hx]; exact h6)) (Array.getElem?_eq_some_iff.1 (hs.own _ List.mem_cons_self).1).1 (by simp; omega) totF
      refine hh.mono ?_
      rintro e w' ⟨rfl, n, os, rfl⟩
      refine ⟨rfl, n, os, ?_⟩
      unfold sortWorldK Sort.putRowK
      rw [show ((xs.toArray.toList.mergeSort fun x y => !(ltOf cmpF) y x)) = srtF xs from rfl, flatK_list])
    refine ⟨T.callable, fun v a b => (T.run v a b).mono ?_⟩
    rintro e w' ⟨x, v', e1, e2, e3, e4, e5⟩
    have hy : ((srtF xs).flatMap Fc.cells).length = xs.length * 6 := by rw [fm_len Fc.cells 6 Fc.cells_len, srtF_len]
    refine ⟨⟨_, by rw [hy, srtF_len], .inr ⟨g, cap, _, by rw [srtF_len], rfl, by rw [srtF_len]; exact h3, h4, by rw [putV_size]; exact h5, ?_⟩⟩, v', e1, e2, e3, e4, e5⟩
    have := putV_take (cur := cur) (d := (srtF xs).flatMap Fc.cells) (by rw [hy, h5]; omega)
    rw [hy] at this
    rw [srtF_len]; exact this
end Go.Proofs.YtpdbbglpbngeiaaGreatDoor
namespace Go.Proofs.YtpdbbglpbngeiaaGreatDoor
open Go Go.Sx Go.Proofs
set_option linter.unusedVariables false
attribute [local irreducible] Code.wp wpList wpAnyH
open Go.Vs
section
variable {P : Program} {N : Nat} {v0 : Vw} {H0 : Hp} {fr : Fr} {H F : Hp} {Γ : List Fct} {K D : Type} [DecidableEq K]
theorem holds_objs : ∀ (B : Hp) {v : Vw}, holds (B.map fun p => objF p.1 p.2) v → ∀ p ∈ B, v.im p.1 ∧ v.w.heap[p.1]? = some p.2
  | [], _, _, _, h => by simp at h
  | q :: B, v, h, p, hp => by
    rcases List.mem_cons.1 hp with rfl | hp
    · exact h.1
    · exact holds_objs B h.2 p hp
/-- a map of rows comes to last -/
theorem ok_giveM {k : Act → World → Prop} {kv : K → Value} {cells : D → List Value} {kt e : TypeId} {sz mb : Nat} {l : List (K × D)} {Hm : Hp} (hK : KeyT P kt kv) (hm : MLog kv cells e sz l mb Hm) (hH : H.Perm (Hm ++ F))
    (h : ∀ adr, Ok N v0 H0 k fr F (mlF P kt kv cells mb l adr :: Γ)) : Ok N v0 H0 k fr H Γ := by
  obtain ⟨adr, ha⟩ := hm.lent hK
  refine ok_giveL Hm hH (ok_facts (fun v _ hv => ?_) (h adr))
  rw [holds_append] at hv
  refine ⟨ha v fun p hp => ?_, hv.2⟩
  have := hv.1
  exact holds_objs Hm.reverse (by rw [List.map_reverse] at *; exact this) p (List.mem_reverse.2 hp)
theorem yld_lenK {tF : TypeId} {E : Emt P tF} {nw fm : List Fc} {Hs : Hp} {ty t kt et : TypeId} {x : Operand} (hS : E.St nw fm Hs) (hu : ∀ w, (underlying t).run P w = .ok (.map kt et) w) (hx : Fr.ev fr x = some (.map (some E.kb))) (hp : H.Perm (Hs ++ F)) :
    Yld P N fr H Γ (.call ⟨.builtin .len, #[x], #[t]⟩) ty (.int .i64 ((E.kof nw).length : Int)) := by
  obtain ⟨es, c, g1, g2⟩ := E.known hS
  exact yld_lenSet g2 hu hx fun v h _ => perm_obj hp g1 h
end
/-- how long the logs of an index are -/
def ixSz (x : Ix) (n : Nat) : Prop := x.above.length ≤ n ∧ x.under.length ≤ n ∧ x.frm.length ≤ n ∧ x.into.length ≤ n ∧ x.ranges.length ≤ n ∧ x.firms.length ≤ n
theorem ixSz_nil : ixSz Ix.nil 0 := by simp [ixSz, Ix.nil]
theorem ixSz_add {x : Ix} {n : Nat} (h : ixSz x n) (b : Bool) (f : Fc) : ixSz (x.add b f) (n + 1) := by
  obtain ⟨h1, h2, h3, h4, h5, h6⟩ := h
  unfold Ix.add ixSz
  split
  · simp; omega
  · split
    · simp; omega
    · split
      · cases b <;> simp <;> omega
      · omega
theorem ixSz_lat {x : Ix} {n : Nat} (h : ixSz x n) (hn : n ≤ 1000000000) : (∀ k, (lat x.above k).length ≤ 1000000000 ∧ (lat x.under k).length ≤ 1000000000) ∧ (∀ k, (lat x.frm k).length ≤ 1000000000 ∧ (lat x.into k).length ≤ 1000000000 ∧ (lat x.ranges k).length ≤ 1000000000 ∧ (lat x.firms k).length ≤ 1000000000) := by
  obtain ⟨h1, h2, h3, h4, h5, h6⟩ := h
  refine ⟨fun k => ⟨?_, ?_⟩, fun k => ⟨?_, ?_, ?_, ?_⟩⟩
  · have := lat_len x.above k; omega
  · have := lat_len x.under k; omega
  · have := lat_len x.frm k; omega
  · have := lat_len x.into k; omega
  · have := lat_len x.ranges k; omega
  · have := lat_len x.firms k; omega
theorem rule1_c (B : EngB) (E : Emt Tryz.prog 41) (A0 : EngA) (pm : List (Ky × Pc)) (x : Ix) (f : Fc) (nw fm : List Fc) (Hs : Hp) (hS : E.St nw fm Hs) (Ha Hu Ho Hi Hr Hm : Hp) (hI : IxO 9 41 B x ⟨Ha, Hu, Ho, Hi, Hr, Hm⟩) (hpl : ∀ k, (lat pm k).length ≤ 1000000000) (hxl : ∀ k, (lat x.above k).length ≤ 1000000000 ∧ (lat x.under k).length ≤ 1000000000) (hyl : ∀ k, (lat x.frm k).length ≤ 1000000000 ∧ (lat x.into k).length ≤ 1000000000 ∧ (lat x.ranges k).length ≤ 1000000000 ∧ (lat x.firms k).length ≤ 1000000000) (hf : f.kind = 3 → -1099511627776 ≤ f.lo ∧ f.lo ≤ f.hi ∧ f.hi ≤ 1099511627776) (hq : f.kind = 3 → ∀ y ∈ lat pm (Ky.mk 9 (Fc.r f) []), -1099511627776 ≤ y.lo ∧ y.lo ≤ y.hi ∧ y.hi ≤ 1099511627776) (hk : f.kind = 1) : ∀ (j : Nat) {fv : Value}, (rlV B.g 1)[j]? = some fv → ∃ n : Nat, fv = .func (.func n) #[.pointer (some ⟨B.g, 0, none⟩)] #[] ∧ Tri Tryz.prog n #[.pointer (some ⟨B.g, 0, none⟩), f.val] ((Ha ++ (Hu ++ (Ho ++ (Hi ++ (Hr ++ Hm))))) ++ Hs) [gF B E, pF B pm A0, E.ef] (fun _ : {H' : Hp // E.St (rl E.stp E.kof pm x f j (nw, fm)).1 (rl E.stp E.kof pm x f j (nw, fm)).2 H'} => .tuple #[]) (fun y => (Ha ++ (Hu ++ (Ho ++ (Hi ++ (Hr ++ Hm))))) ++ y.1) (fun _ => [])
  | 0, _, h => ⟨100, (Option.some.inj h).symm, rl10_c B E A0 pm x f nw fm Hs hS Ha Hu Ho Hi Hr Hm hI hpl hxl hyl hf hq hk⟩
  | 1, _, h => ⟨101, (Option.some.inj h).symm, rl11_c B E A0 pm x f nw fm Hs hS Ha Hu Ho Hi Hr Hm hI hpl hxl hyl hf hq hk⟩
  | 2, _, h => ⟨102, (Option.some.inj h).symm, rl12_c B E A0 pm x f nw fm Hs hS Ha Hu Ho Hi Hr Hm hI hpl hxl hyl hf hq hk⟩
  | 3, _, h => ⟨103, (Option.some.inj h).symm, rl13_c B E A0 pm x f nw fm Hs hS Ha Hu Ho Hi Hr Hm hI hpl hxl hyl hf hq hk⟩
  | 4, _, h => ⟨104, (Option.some.inj h).symm, rl14_c B E A0 pm x f nw fm Hs hS Ha Hu Ho Hi Hr Hm hI hpl hxl hyl hf hq hk⟩
  | 5, _, h => ⟨105, (Option.some.inj h).symm, rl15_c B E A0 pm x f nw fm Hs hS Ha Hu Ho Hi Hr Hm hI hpl hxl hyl hf hq hk⟩
  | j + 6, _, h => by simp [rlV] at h
theorem rule2_c (B : EngB) (E : Emt Tryz.prog 41) (A0 : EngA) (pm : List (Ky × Pc)) (x : Ix) (f : Fc) (nw fm : List Fc) (Hs : Hp) (hS : E.St nw fm Hs) (Ha Hu Ho Hi Hr Hm : Hp) (hI : IxO 9 41 B x ⟨Ha, Hu, Ho, Hi, Hr, Hm⟩) (hpl : ∀ k, (lat pm k).length ≤ 1000000000) (hxl : ∀ k, (lat x.above k).length ≤ 1000000000 ∧ (lat x.under k).length ≤ 1000000000) (hyl : ∀ k, (lat x.frm k).length ≤ 1000000000 ∧ (lat x.into k).length ≤ 1000000000 ∧ (lat x.ranges k).length ≤ 1000000000 ∧ (lat x.firms k).length ≤ 1000000000) (hf : f.kind = 3 → -1099511627776 ≤ f.lo ∧ f.lo ≤ f.hi ∧ f.hi ≤ 1099511627776) (hq : f.kind = 3 → ∀ y ∈ lat pm (Ky.mk 9 (Fc.r f) []), -1099511627776 ≤ y.lo ∧ y.lo ≤ y.hi ∧ y.hi ≤ 1099511627776) (hk : f.kind = 2) : ∀ (j : Nat) {fv : Value}, (rlV B.g 2)[j]? = some fv → ∃ n : Nat, fv = .func (.func n) #[.pointer (some ⟨B.g, 0, none⟩)] #[] ∧ Tri Tryz.prog n #[.pointer (some ⟨B.g, 0, none⟩), f.val] ((Ha ++ (Hu ++ (Ho ++ (Hi ++ (Hr ++ Hm))))) ++ Hs) [gF B E, pF B pm A0, E.ef] (fun _ : {H' : Hp // E.St (rl E.stp E.kof pm x f j (nw, fm)).1 (rl E.stp E.kof pm x f j (nw, fm)).2 H'} => .tuple #[]) (fun y => (Ha ++ (Hu ++ (Ho ++ (Hi ++ (Hr ++ Hm))))) ++ y.1) (fun _ => [])
  | 0, _, h => ⟨106, (Option.some.inj h).symm, rl20_c B E A0 pm x f nw fm Hs hS Ha Hu Ho Hi Hr Hm hI hpl hxl hyl hf hq hk⟩
  | 1, _, h => ⟨107, (Option.some.inj h).symm, rl21_c B E A0 pm x f nw fm Hs hS Ha Hu Ho Hi Hr Hm hI hpl hxl hyl hf hq hk⟩
  | 2, _, h => ⟨108, (Option.some.inj h).symm, rl22_c B E A0 pm x f nw fm Hs hS Ha Hu Ho Hi Hr Hm hI hpl hxl hyl hf hq hk⟩
  | 3, _, h => ⟨109, (Option.some.inj h).symm, rl23_c B E A0 pm x f nw fm Hs hS Ha Hu Ho Hi Hr Hm hI hpl hxl hyl hf hq hk⟩
  | j + 4, _, h => by simp [rlV] at h
theorem rule3_c (B : EngB) (E : Emt Tryz.prog 41) (A0 : EngA) (pm : List (Ky × Pc)) (x : Ix) (f : Fc) (nw fm : List Fc) (Hs : Hp) (hS : E.St nw fm Hs) (Ha Hu Ho Hi Hr Hm : Hp) (hI : IxO 9 41 B x ⟨Ha, Hu, Ho, Hi, Hr, Hm⟩) (hpl : ∀ k, (lat pm k).length ≤ 1000000000) (hxl : ∀ k, (lat x.above k).length ≤ 1000000000 ∧ (lat x.under k).length ≤ 1000000000) (hyl : ∀ k, (lat x.frm k).length ≤ 1000000000 ∧ (lat x.into k).length ≤ 1000000000 ∧ (lat x.ranges k).length ≤ 1000000000 ∧ (lat x.firms k).length ≤ 1000000000) (hf : f.kind = 3 → -1099511627776 ≤ f.lo ∧ f.lo ≤ f.hi ∧ f.hi ≤ 1099511627776) (hq : f.kind = 3 → ∀ y ∈ lat pm (Ky.mk 9 (Fc.r f) []), -1099511627776 ≤ y.lo ∧ y.lo ≤ y.hi ∧ y.hi ≤ 1099511627776) (hk : f.kind = 3) : ∀ (j : Nat) {fv : Value}, (rlV B.g 3)[j]? = some fv → ∃ n : Nat, fv = .func (.func n) #[.pointer (some ⟨B.g, 0, none⟩)] #[] ∧ Tri Tryz.prog n #[.pointer (some ⟨B.g, 0, none⟩), f.val] ((Ha ++ (Hu ++ (Ho ++ (Hi ++ (Hr ++ Hm))))) ++ Hs) [gF B E, pF B pm A0, E.ef] (fun _ : {H' : Hp // E.St (rl E.stp E.kof pm x f j (nw, fm)).1 (rl E.stp E.kof pm x f j (nw, fm)).2 H'} => .tuple #[]) (fun y => (Ha ++ (Hu ++ (Ho ++ (Hi ++ (Hr ++ Hm))))) ++ y.1) (fun _ => [])
  | 0, _, h => ⟨110, (Option.some.inj h).symm, rl30_c B E A0 pm x f nw fm Hs hS Ha Hu Ho Hi Hr Hm hI hpl hxl hyl hf hq hk⟩
  | 1, _, h => ⟨111, (Option.some.inj h).symm, rl31_c B E A0 pm x f nw fm Hs hS Ha Hu Ho Hi Hr Hm hI hpl hxl hyl hf hq hk⟩
  | j + 2, _, h => by simp [rlV] at h
/-- what All answers -/
def AllR (p : List Pc) (bu : Int) (c : Cl) (e : Int) : Prop :=
  if checkP p ≠ 0 then c = Cl.no ∧ e = checkP p
  else if bu < 0 ∨ 1073741824 < bu then c = Cl.no ∧ e = 1
  else (e = 0 ∧ c.ok ∧ c.atoms = atS p ∧ AllIs p (atS p) (min bu 65536).toNat (some c.facts)) ∨ (c = Cl.no ∧ e = (if bu < 65536 then 3 else 2) ∧ AllIs p (atS p) (min bu 65536).toNat none)
theorem allR_chk {p : List Pc} {bu : Int} (h : checkP p ≠ 0) : AllR p bu Cl.no (checkP p) := by unfold AllR; rw [if_pos h]; exact ⟨rfl, rfl⟩
theorem allR_arg {p : List Pc} {bu : Int} (h : checkP p = 0) (hb : bu < 0 ∨ 1073741824 < bu) : AllR p bu Cl.no 1 := by unfold AllR; rw [if_neg (by simp [h]), if_pos hb]; exact ⟨rfl, rfl⟩
theorem allR_ok {p : List Pc} {bu : Int} {m n : Nat} {c : Cl} {q fm : List Fc} {x : Ix} (hc : checkP p = 0) (h1 : ¬ bu < 0) (h2 : ¬ 1073741824 < bu) (hm : min bu 65536 = (m : Int)) (hk : c.ok) (ha : c.atoms = atS p) (hL : LoopA (uniq [] p) (atS p) m n q fm x) (hn : q.length ≤ n) (hl : q.length ≤ m) (hf : c.facts = srtF q) : AllR p bu c 0 := by
  unfold AllR
  rw [if_neg (by simp [hc]), if_neg (by omega)]
  have e : n = q.length := Nat.le_antisymm hL.le hn
  subst e
  refine .inl ⟨rfl, hk, ha, ?_⟩
  rw [hm, hf]
  exact ⟨srtF_srt hL.nd, fun y => by rw [srtF_mem, ← loopA_done hL hl, uniq_der], by rw [srtF_len]; simpa using hl⟩
theorem allR_none {p : List Pc} {bu : Int} {m : Nat} {e : Int} {M : List Fc} (hc : checkP p = 0) (h1 : ¬ bu < 0) (h2 : ¬ 1073741824 < bu) (hm : min bu 65536 = (m : Int)) (he : e = if bu < 65536 then 3 else 2) (nd : M.Nodup) (hd : ∀ y ∈ M, Der (uniq [] p) (atS p) y) (hl : m < M.length) : AllR p bu Cl.no e := by
  unfold AllR
  rw [if_neg (by simp [hc]), if_neg (by omega)]
  exact .inr ⟨rfl, he, M, nd, fun y hy => uniq_der.1 (hd y hy), by rw [hm]; simpa using hl⟩
end Go.Proofs.YtpdbbglpbngeiaaGreatDoor
namespace Go.Proofs.YtpdbbglpbngeiaaGreatDoor
open Go Go.Sx Go.Proofs
set_option linter.unusedVariables false
attribute [local irreducible] Code.wp wpList wpAnyH
open Go.Vs
set_option maxHeartbeats 4000000 in
theorem all_c (p : List Pc) (pad : Option Addr) (pcap : Nat) (bu : Int) (hsm : ∀ x ∈ p, x.sm) (hp : p.length ≤ 100000000) : Tri Tryz.prog 18 #[.slice pad (List.length p) pcap, .int .i64 bu] [] [rowF pad (List.flatMap Pc.cells p), tabN] (fun y : {y : Cl × Int // AllR p bu y.1 y.2} => .tuple #[y.1.1.val, .int .i64 y.1.2]) (fun _ => []) (fun y => y.1.1.row) := by
 refine tri_of_body Tryz.func18 rfl rfl Tryz.ntmps18 rfl fun v0 => ?_
 refine run_seq (run_region (ops_alloc Tryz.zeroValue28 rfl fun b1 => ?_))
 refine ops_val (yld_assign rfl) rfl (ops_nil (fin_next rfl ?_))
 refine run_scope ?_
 refine run_seq (run_seq (run_region (ops_val (yld_move rfl) rfl (ops_call (check_c p pad pcap (by omega) hsm) rfl pf_nil (fun v _ h => by exact ⟨h.1, h.2.1, trivial⟩) rfl fun _ => ?_))))
 refine ops_val (yld_assign rfl) rfl (ops_nil (fin_next rfl (run_seq (run_region (ops_val (yld_move rfl) rfl (ops_valB (yld_neq rfl rfl) rfl fun r1 hr1 => ?_))))))
 refine ops_nil (fin_next rfl ?_)
 cases r1
 ·
  replace hr1 := eq_of_bne hr1
  have hchk := hr1
  refine run_cond_f rfl (run_skip (fin_next rfl (run_seq (run_seq (run_region (ops_val (yld_move rfl) rfl (ops_valB (yld_lss rfl rfl) rfl fun r2 hr2 => ?_)))))))
  refine ops_val (yld_move rfl) rfl ?_
  cases r2
  ·
   replace hr2 := of_decide_eq_false hr2
   have hb0 := hr2
   refine ops_yes rfl rfl (ops_val (yld_move rfl) rfl (ops_yes rfl rfl (ops_valB (yld_gtr rfl rfl) rfl fun r3 hr3 => ?_)))
   refine ops_val (yld_pick_f rfl rfl) rfl ?_
   refine ops_nil (fin_next rfl ?_)
   cases r3
   ·
    replace hr3 := of_decide_eq_false hr3
    have hb1 := hr3
    refine run_cond_f rfl (run_skip (fin_next rfl (run_seq ?_)))
    obtain ⟨m, hm0'⟩ : ∃ m : Nat, min bu 65536 = (m : Int) := ⟨(min bu 65536).toNat, by omega⟩
    have hm : m ≤ 65536 := by omega
    have hvk := uniq_vok (check_vok hchk)
    have hpl : ∀ k, (lat (pmOf (uniq [] p)) k).length ≤ 1000000000 := fun k => by have h1 := lat_len (pmOf (uniq [] p)) k; have h2 := pmOf_len (uniq [] p); have h3 := uniq_len p []; simp only [List.length_nil] at h3; omega
    refine run_region (ops_val (yld_move rfl) rfl (ops_call (newEngine_c p pad pcap (by omega)) rfl pf_nil (fun v _ h => by exact ⟨h.1, trivial⟩) rfl fun ⟨⟨g, pb, kb, ab, ub, ob, ib, rb, sb, fb, lv, hm0, hl0⟩, hy⟩ => ?_))
    dsimp only
    dsimp only [NewE.own, NewE.ok] at hy ⊢
    obtain ⟨hym, hyl⟩ := hy
    simp only [List.cons_append, List.append_assoc]
    refine ok_giveRowN hyl (pf_cons (pf_cons (pf_cons (pf_cons (pf_cons (pf_cons (pf_cons (pf_cons (pf_cons (pf_app pf_hereO)))))))))) fun lad lcap hlad hclad hmlad hzlad => ?_
    subst hlad
    refine ops_alloc Tryz.zeroValue85 rfl fun b2 => ?_
    refine ok_perm (pf_fB pf_here (pf_fB pf_here (pf_fB pf_here (pf_fB pf_here (pf_fB pf_here (pf_fB pf_here (pf_fB pf_here (pf_fB pf_here (pf_fB pf_here (pf_fB pf_here (pf_f1 pf_last))))))))))) ?_
    refine ops_store 0 Tryz.sizeOf85 rfl rfl rfl rfl rfl rfl ?_
    refine ops_nil (fin_next rfl (run_seq (run_region (ops_val (yld_move rfl) rfl (ops_val (yld_eq (yld_minI rfl rfl) (congrArg (Value.int .i64) hm0')) rfl ?_)))))
    refine ops_alloc Tryz.zeroValue3 rfl fun b3 => ?_
    refine ops_store 0 Tryz.sizeOf3 rfl rfl rfl rfl rfl rfl ?_
    refine ops_nil (fin_next rfl (run_seq (run_region (ops_alloc Tryz.zeroValue26 rfl fun b4 => ?_))))
    refine ops_nil (fin_next rfl (run_seq (run_region (ops_val (yld_load 2 Tryz.isAgg85 rfl rfl rfl) rfl ?_))))
    refine ops_val (yld_func rfl rfl) rfl ?_
    refine ops_val (yld_nilck rfl) rfl ?_
    refine ops_val (yld_field Tryz.runUnderlying94 rfl rfl rfl Tryz.sizeOf89) rfl ?_
    refine ops_store 3 Tryz.sizeOf89 rfl rfl rfl rfl rfl rfl ?_
    refine ops_nil (fin_next rfl (run_seq (ok_give (objF b2 (.cells #[.pointer (some ⟨g, 0, none⟩)] 85 (0, 0))) (pf_f1 (pf_cons (pf_cons pf_here))) (fun _ h1 h2 _ => ⟨h1, h2⟩) ?_)))
    refine ok_give (objF b3 (.cells #[.int .i64 (m : Int)] 3 (0, 0))) (pf_f1 (pf_cons pf_here)) (fun _ h1 h2 _ => ⟨h1, h2⟩) ?_
    refine ok_give (objF g (.cells #[.map (some pb), .slice lad (List.length (loopsOf (uniq [] p))) lcap, .map (some kb), .func (.func 55) #[] #[.pointer (some ⟨b2, 0, none⟩), .pointer (some ⟨b3, 0, none⟩), .pointer (some ⟨b4, 0, none⟩)], .map (some ab), .map (some ub), .map (some ob), .map (some ib), .map (some rb), .map (some sb), .map (some fb)] 94 (0, 0))) (pf_f1 (pf_cons pf_here)) (fun _ h1 h2 _ => ⟨h1, h2⟩) ?_
    refine ok_giveM keyKy hym (pf_cons (pf_cons (pf_cons (pf_cons (pf_cons (pf_cons (pf_cons (pf_cons (pf_cons pf_lastB))))))))) fun adr => ?_
    refine run_region (ops_val (yld_move rfl) rfl (ops_call (atS_c p pad pcap (by omega)) rfl pf_nil (fun v _ h => by exact ⟨h.2.2.2.2.2.1, trivial⟩) rfl fun ⟨⟨aad, acap⟩, hac, ham, haz⟩ => ?_))
    dsimp only
    refine ops_val (yld_assign rfl) rfl (ops_nil (fin_next rfl (run_seq (run_region (ops_val (yld_loadO Tryz.isAgg85 rfl (fun v _ h => by exact h.2.2.2.2.1) rfl) rfl ?_)))))
    refine ops_val (yld_move rfl) rfl (ops_call (begin_c (EngB.mk g pb ab ub ob ib rb sb lad lcap (loopsOf (uniq [] p))) (EA m hm (EngB.mk g pb ab ub ob ib rb sb lad lcap (loopsOf (uniq [] p))) b2 b3 b4 kb fb) [] [] [(b4, .cells #[.slice none 0 0] 26 (0, 0)), (kb, .map #[] 0), (fb, .map #[] 0)] ⟨.slice none 0 0, #[], 0, #[], 0, [], [], rfl, SRow.nil _ _, SetE.nil, SetE.nil, by simp⟩ (atS p) aad acap (by have := atS_len p; omega) (by have := loopsOf_len (uniq [] p); have h3 := uniq_len p []; simp only [List.length_nil] at h3; show (loopsOf (uniq [] p)).length ≤ _; omega)) rfl (pf_takeB pf_here (pf_takeB pf_here (pf_cons (pf_cons (pf_cons (pf_cons (pf_cons (pf_cons pf_here)))))))) (fun v _ h => by exact ⟨h.2.2.1, h.2.2.2.2.2.1, h.1, ⟨h.2.2.2.2.1, h.2.2.2.1, h.2.2.1⟩, trivial⟩) rfl fun ⟨Hs1, hS1⟩ => ?_)
    dsimp only
    refine ops_nil (fin_next rfl (ok_perm (pf_fB (pf_app pf_here) (pf_fB (pf_app pf_here) (pf_fB (pf_app pf_here) (pf_fB (pf_app pf_here) (pf_fB (pf_app pf_here) (pf_fB (pf_app pf_here) (pf_f1 pf_last))))))) ?_))
    refine run_seq (run_region (ops_val (yld_loadO Tryz.isAgg85 rfl (fun v _ h => by exact h.2.2.2.2.1) rfl) rfl ?_))
    refine ops_call (rules_c g) rfl pf_nil (fun _ _ _ => by exact trivial) rfl fun ⟨r1, r2, r3⟩ => ?_
    dsimp only
    refine ops_alloc Tryz.zeroValue98 rfl fun b5 => ?_
    refine ops_store 0 Tryz.sizeOf98 rfl rfl rfl rfl rfl rfl ?_
    refine ops_nil (fin_next rfl (run_seq ?_))
    refine run_label ?_
    refine fin_next rfl (run_seq (run_seq (run_region (ops_val (yld_assign rfl) rfl (ops_nil (fin_next rfl (run_block ?_)))))))
    refine ok_fr [(0, .slice pad (List.length p) pcap), (1, .int .i64 bu), (4, .pointer (some ⟨b1, 0, none⟩)), (7, .pointer (some ⟨b2, 0, none⟩)), (8, .pointer (some ⟨b3, 0, none⟩)), (9, .pointer (some ⟨b4, 0, none⟩)), (10, .slice aad (List.length (atS p)) acap), (11, .pointer (some ⟨b5, 0, none⟩)), (12, .int .i64 ((0 : Nat) : Int))] ⟨rfl, rfl, rfl, rfl, rfl, rfl, rfl, rfl, rfl, trivial⟩ ?_
    refine ok_weak (H' := ((b1, .cells #[.slice none 0 0, .slice none 0 0] 28 (0, 0)) :: ((b5, .cells #[.slice none 0 0, .slice (some ⟨r1, 0, none⟩) 6 6, .slice (some ⟨r2, 0, none⟩) 4 4, .slice (some ⟨r3, 0, none⟩) 2 2] 98 (0, 0)) :: ([(ab, .map #[] 0)] ++ ([(ub, .map #[] 0)] ++ ([(ob, .map #[] 0)] ++ ([(ib, .map #[] 0)] ++ ([(rb, .map #[] 0)] ++ ([(sb, .map #[] 0)] ++ Hs1))))))))) (Γ' := [rowF (some ⟨r1, 0, none⟩) (List.flatMap fvC (rlV g 1)), rowF (some ⟨r2, 0, none⟩) (List.flatMap fvC (rlV g 2)), rowF (some ⟨r3, 0, none⟩) (List.flatMap fvC (rlV g 3)), rowF aad (List.flatMap strC (atS p)), mlF Tryz.prog 171 Ky.val Pc.cells pb (pmOf (uniq [] p)) adr, objF g (.cells #[.map (some pb), .slice lad (List.length (loopsOf (uniq [] p))) lcap, .map (some kb), .func (.func 55) #[] #[.pointer (some ⟨b2, 0, none⟩), .pointer (some ⟨b3, 0, none⟩), .pointer (some ⟨b4, 0, none⟩)], .map (some ab), .map (some ub), .map (some ob), .map (some ib), .map (some rb), .map (some sb), .map (some fb)] 94 (0, 0)), objF b3 (.cells #[.int .i64 (m : Int)] 3 (0, 0)), objF b2 (.cells #[.pointer (some ⟨g, 0, none⟩)] 85 (0, 0)), rowF lad (List.flatMap strC (loopsOf (uniq [] p))), rowF pad (List.flatMap Pc.cells p), tabN]) (pf_takeB (pf_cons (pf_cons (pf_cons (pf_cons (pf_cons (pf_cons (pf_cons pf_here))))))) (pf_takeB pf_here (pf_takeB pf_here (pf_takeB pf_here (pf_takeB pf_here (pf_takeB pf_here (pf_takeB pf_here (pf_takeB pf_here pf_end)))))))) (fun v _ h => by exact ⟨h.1, h.2.1, h.2.2.1, h.2.2.2.1, h.2.2.2.2.1, h.2.2.2.2.2.1, h.2.2.2.2.2.2.1, h.2.2.2.2.2.2.2.1, h.2.2.2.2.2.2.2.2.1, h.2.2.2.2.2.2.2.2.2.1, h.2.2.2.2.2.2.2.2.2.2.1, trivial⟩) ?_
    refine run_loop (ι := {y : Nat × List Fc × List Fc × Ix × Hp × Hp × Hp × Hp × Hp × Hp × Hp // LoopA (uniq [] p) (atS p) m y.1 y.2.1 y.2.2.1 y.2.2.2.1 ∧ ((EA m hm (EngB.mk g pb ab ub ob ib rb sb lad lcap (loopsOf (uniq [] p))) b2 b3 b4 kb fb)).St y.2.1 y.2.2.1 y.2.2.2.2.2.2.2.2.2.2 ∧ IxO 9 41 (EngB.mk g pb ab ub ob ib rb sb lad lcap (loopsOf (uniq [] p))) y.2.2.2.1 ⟨y.2.2.2.2.1, y.2.2.2.2.2.1, y.2.2.2.2.2.2.1, y.2.2.2.2.2.2.2.1, y.2.2.2.2.2.2.2.2.1, y.2.2.2.2.2.2.2.2.2.1⟩ ∧ ixSz y.2.2.2.1 y.1}) (fun y => [(0, .slice pad (List.length p) pcap), (1, .int .i64 bu), (4, .pointer (some ⟨b1, 0, none⟩)), (7, .pointer (some ⟨b2, 0, none⟩)), (8, .pointer (some ⟨b3, 0, none⟩)), (9, .pointer (some ⟨b4, 0, none⟩)), (10, .slice aad (List.length (atS p)) acap), (11, .pointer (some ⟨b5, 0, none⟩)), (12, .int .i64 (y.1.1 : Int))]) (fun y => ((b1, .cells #[.slice none 0 0, .slice none 0 0] 28 (0, 0)) :: ((b5, .cells #[.slice none 0 0, .slice (some ⟨r1, 0, none⟩) 6 6, .slice (some ⟨r2, 0, none⟩) 4 4, .slice (some ⟨r3, 0, none⟩) 2 2] 98 (0, 0)) :: (y.1.2.2.2.2.1 ++ (y.1.2.2.2.2.2.1 ++ (y.1.2.2.2.2.2.2.1 ++ (y.1.2.2.2.2.2.2.2.1 ++ (y.1.2.2.2.2.2.2.2.2.1 ++ (y.1.2.2.2.2.2.2.2.2.2.1 ++ y.1.2.2.2.2.2.2.2.2.2.2))))))))) (fun y => [rowF (some ⟨r1, 0, none⟩) (List.flatMap fvC (rlV g 1)), rowF (some ⟨r2, 0, none⟩) (List.flatMap fvC (rlV g 2)), rowF (some ⟨r3, 0, none⟩) (List.flatMap fvC (rlV g 3)), rowF aad (List.flatMap strC (atS p)), mlF Tryz.prog 171 Ky.val Pc.cells pb (pmOf (uniq [] p)) adr, objF g (.cells #[.map (some pb), .slice lad (List.length (loopsOf (uniq [] p))) lcap, .map (some kb), .func (.func 55) #[] #[.pointer (some ⟨b2, 0, none⟩), .pointer (some ⟨b3, 0, none⟩), .pointer (some ⟨b4, 0, none⟩)], .map (some ab), .map (some ub), .map (some ob), .map (some ib), .map (some rb), .map (some sb), .map (some fb)] 94 (0, 0)), objF b3 (.cells #[.int .i64 (m : Int)] 3 (0, 0)), objF b2 (.cells #[.pointer (some ⟨g, 0, none⟩)] 85 (0, 0)), rowF lad (List.flatMap strC (loopsOf (uniq [] p))), rowF pad (List.flatMap Pc.cells p), tabN]) (fun y => m + 1 - y.1.1) ⟨((0 : Nat), (emits (stpA m) (beginL (loopsOf (uniq [] p)) (atS p)) []), ([] : List Fc), Ix.nil, [(ab, .map #[] 0)], [(ub, .map #[] 0)], [(ob, .map #[] 0)], [(ib, .map #[] 0)], [(rb, .map #[] 0)], [(sb, .map #[] 0)], Hs1), loopA_start hvk rfl, by exact hS1, ⟨MLog.nil _ _, MLog.nil _ _, MLog.nil _ _, MLog.nil _ _, MLog.nil _ _, MLog.nil _ _⟩, ixSz_nil⟩ ?_
    rintro ⟨⟨n, q, fm, x, Ha, Hu, Ho, Hi, Hr, Hm, Hs⟩, hL, hS, hI, hz⟩
    dsimp only at hL hS hI hz ⊢
    refine ok_fr [(0, .slice pad (List.length p) pcap), (1, .int .i64 bu), (4, .pointer (some ⟨b1, 0, none⟩)), (7, .pointer (some ⟨b2, 0, none⟩)), (8, .pointer (some ⟨b3, 0, none⟩)), (9, .pointer (some ⟨b4, 0, none⟩)), (10, .slice aad (List.length (atS p)) acap), (11, .pointer (some ⟨b5, 0, none⟩)), (12, .int .i64 (n : Int))] ⟨rfl, rfl, rfl, rfl, rfl, rfl, rfl, rfl, rfl, trivial⟩ ?_
    obtain ⟨sv1, es1, ce1, ef1, cf1, qf1, Hq1, hHs1, hrQ1, hEk1, hEf1, hqf1⟩ := hS
    subst hHs1
    have hqm := hL.len
    have hnq := hL.le
    obtain ⟨hxl, hyl⟩ := ixSz_lat hz (by omega)
    refine run_seq (ok_perm (pf_fB pf_here (pf_fB pf_here (pf_fB (pf_app (pf_app (pf_app (pf_app (pf_app (pf_app pf_here)))))) (pf_f1 (pf_app (pf_app (pf_app (pf_app (pf_app (pf_app pf_here)))))))))) ?_)
    refine run_seq (run_region (ops_val (yld_move rfl) rfl (ops_val (yld_load 2 Tryz.isAgg26 rfl rfl rfl) rfl ?_)))
    refine ops_val (yld_lenRow hrQ1 Tryz.runUnderlying26 rfl) rfl ?_
    refine ops_valB (yld_lss rfl rfl) rfl fun r4 hr4 => ?_
    refine ops_nil (fin_next rfl ?_)
    cases r4
    ·
     replace hr4 := of_decide_eq_false hr4
     refine run_cond_f rfl (run_exit rfl (fin_next rfl (run_seq (run_seq ?_))))
     refine run_draw' (by kernel_rfl) ?_
     refine any_sq 0 [0, 1, 2, 3, 4, 5, 6] (by kernel_rfl) (fun _ a b => ⟨a, b⟩) ?_
     refine sq_val rfl (yld_loadO Tryz.isAgg85 rfl (fun v _ h => by exact h.2.2.2.2.2.2.2.1) rfl) rfl ?_
     refine sq_val rfl (yld_nilck rfl) rfl ?_
     refine sq_val rfl (yld_field Tryz.runUnderlying94 rfl rfl rfl Tryz.sizeOf88) rfl ?_
     refine sq_val rfl (yld_loadO Tryz.isAgg88 rfl (fun v _ h => by exact h.2.2.2.2.2.1) rfl) rfl ?_
     refine sq_val rfl (yld_eq (yld_lenK (E := (EA m hm (EngB.mk g pb ab ub ob ib rb sb lad lcap (loopsOf (uniq [] p))) b2 b3 b4 kb fb)) (nw := q) (Hs := ((b4, .cells #[sv1] 26 (0, 0)) :: (kb, .map es1 ce1) :: ([(fb, .map ef1 cf1)] ++ Hq1))) ⟨sv1, es1, ce1, ef1, cf1, qf1, Hq1, rfl, hrQ1, hEk1, hEf1, hqf1⟩ Tryz.runUnderlying88 rfl (pf_takeB (pf_cons (pf_cons pf_here)) (pf_takeB (pf_cons (pf_cons pf_here)) (pf_takeO (pf_cons (pf_cons (pf_app (pf_app (pf_app (pf_app (pf_app (pf_app pf_hereO)))))))) (pf_cons (pf_cons (pf_app (pf_app (pf_app (pf_app (pf_app pf_last))))))))))) (show _ = Value.int .i64 (List.length q : Int) from rfl)) rfl ?_
     refine sq_val rfl (yld_loadO Tryz.isAgg3 rfl (fun v _ h => by exact h.2.2.2.2.2.2.1) rfl) rfl ?_
     refine sq_valB rfl (yld_gtr rfl rfl) rfl fun r5 hr5 => ?_
     refine sq_nil ?_
     refine any_done (by kernel_rfl) ?_
     refine fin_next rfl ?_
     cases r5
     ·
      replace hr5 := of_decide_eq_false hr5
      refine run_cond_f rfl (run_skip (fin_next rfl (run_seq (run_region (ops_val (yld_load 2 Tryz.isAgg26 rfl rfl rfl) rfl ?_)))))
      refine ops_call (sortF_c hrQ1 (by omega)) rfl (pf_cons (pf_cons (pf_cons (pf_cons (pf_app (pf_app (pf_app (pf_app (pf_app (pf_app pf_last)))))))))) (fun _ _ _ => by exact trivial) rfl fun ⟨Hq9, hq9⟩ => ?_
      dsimp only
      refine ops_nil (fin_next rfl (ok_perm (pf_fB (pf_app pf_here) (pf_fB (pf_app pf_here) (pf_fB (pf_app pf_here) (pf_f1 (pf_app pf_here))))) ?_))
      refine run_seq (ok_giveRowN hq9 (pf_cons (pf_cons (pf_cons (pf_cons pf_hereO)))) fun fad fcap hfad hcfad hmfad hzfad => ?_)
      subst hfad
      refine run_region (ops_val (yld_move rfl) rfl (ops_val (yld_load 2 Tryz.isAgg26 rfl rfl rfl) rfl ?_))
      refine ops_val (yld_struct strt28 rfl rfl) rfl ?_
      refine ops_store 0 Tryz.sizeOf28 rfl rfl rfl rfl rfl rfl ?_
      refine ops_val (yld_assign rfl) rfl (ops_nil (fin_next rfl (run_ret ?_)))
      exact retR ⟨((Cl.mk (atS p) aad acap (srtF q) fad fcap), 0), allR_ok hchk hb0 hb1 hm0' ⟨hac, ham, haz, hcfad, hmfad, hzfad⟩ rfl hL (by omega) (by omega) rfl⟩ (fun aa v h1 h2 => res_ct (us := Cl.cells (Cl.mk (atS p) aad acap (srtF q) fad fcap)) 0 Tryz.results18 Tryz.isAgg28 Tryz.sizeOf28 rfl rfl rfl rfl aa v h1 h2) pf_nil (fun v _ h => by exact ⟨h.2.2.2.2.1, h.1, trivial⟩)
     ·
      replace hr5 := of_decide_eq_true hr5
      refine run_cond_t rfl (run_seq (run_seq (run_region (ops_val (yld_move rfl) rfl (ops_valB (yld_lss rfl rfl) rfl fun r6 hr6 => ?_)))))
      refine ops_nil (fin_next rfl ?_)
      cases r6
      ·
       replace hr6 := of_decide_eq_false hr6
       refine run_cond_f rfl (run_skip (fin_next rfl (run_seq (run_region (ops_val (yld_struct strt28 rfl rfl) rfl ?_)))))
       refine ops_store 0 Tryz.sizeOf28 rfl rfl rfl rfl rfl rfl ?_
       refine ops_val (yld_assign rfl) rfl (ops_nil (fin_next rfl (run_ret ?_)))
       exact retR ⟨((Cl.mk [] none 0 [] none 0), 2), allR_none hchk hb0 hb1 hm0' (by rw [if_neg (by assumption)]) hL.nd hL.der (by omega)⟩ (fun aa v h1 h2 => res_ct (us := Cl.cells (Cl.mk [] none 0 [] none 0)) 0 Tryz.results18 Tryz.isAgg28 Tryz.sizeOf28 rfl rfl rfl rfl aa v h1 h2) pf_nil (fun v _ h => by exact ⟨.inl rfl, .inl rfl, trivial⟩)
      ·
       replace hr6 := of_decide_eq_true hr6
       refine run_cond_t rfl (run_seq (run_region (ops_val (yld_struct strt28 rfl rfl) rfl ?_)))
       refine ops_store 0 Tryz.sizeOf28 rfl rfl rfl rfl rfl rfl ?_
       refine ops_val (yld_assign rfl) rfl (ops_nil (fin_next rfl (run_ret ?_)))
       exact retR ⟨((Cl.mk [] none 0 [] none 0), 3), allR_none hchk hb0 hb1 hm0' (by rw [if_pos (by assumption)]) hL.nd hL.der (by omega)⟩ (fun aa v h1 h2 => res_ct (us := Cl.cells (Cl.mk [] none 0 [] none 0)) 0 Tryz.results18 Tryz.isAgg28 Tryz.sizeOf28 rfl rfl rfl rfl aa v h1 h2) pf_nil (fun v _ h => by exact ⟨.inl rfl, .inl rfl, trivial⟩)
    ·
     replace hr4 := of_decide_eq_true hr4
     have hlf : n < List.length q := by omega
     obtain ⟨f, hf⟩ : ∃ e0, q[n]? = some e0 := ⟨_, List.getElem?_eq_getElem hlf⟩
     have hmf : f ∈ q := List.mem_of_getElem? hf
     have hfd := hL.der f hmf
     have hform := hfd.form hvk
     obtain ⟨hxl1, hyl1⟩ := ixSz_lat (ixSz_add hz (decide (f ∈ fm)) f) (by omega)
     refine run_cond_t rfl (run_skip (fin_next rfl (run_seq (run_block (run_seq (run_region (ops_val (yld_load 2 Tryz.isAgg26 rfl rfl rfl) rfl ?_)))))))
     refine ops_val (yld_move rfl) rfl (ops_val (yld_ixRow hrQ1 Tryz.runUnderlying26 Tryz.sizeOf41 rfl rfl (by omega) (by omega)) rfl ?_)
     refine ops_val (yld_ldRow hrQ1 (pf_cons (pf_cons (pf_cons (pf_cons (pf_app (pf_app (pf_app (pf_app (pf_app (pf_app pf_last)))))))))) Tryz.isAgg41 Tryz.sizeOf41 rfl (Fc.cells_len _) (by decide) (row_cells Fc.cells_len hf)) rfl ?_
     refine ops_alloc Tryz.zeroValue41 rfl fun b6 => ?_
     refine ops_store 0 Tryz.sizeOf41 rfl rfl rfl rfl rfl rfl ?_
     refine ops_nil (fin_next rfl (run_seq (run_region (ops_val (yld_loadO Tryz.isAgg85 rfl (fun v _ h => by exact h.2.2.2.2.2.2.2.1) rfl) rfl ?_))))
     refine ops_val (yld_loadS 0 Tryz.isAgg41 Tryz.sizeOf41 rfl rfl rfl) rfl ?_
     refine ops_call (index_c (EngB.mk g pb ab ub ob ib rb sb lad lcap (loopsOf (uniq [] p))) (EA m hm (EngB.mk g pb ab ub ob ib rb sb lad lcap (loopsOf (uniq [] p))) b2 b3 b4 kb fb) x f q fm ((b4, .cells #[sv1] 26 (0, 0)) :: (kb, .map es1 ce1) :: ([(fb, .map ef1 cf1)] ++ Hq1)) ⟨sv1, es1, ce1, ef1, cf1, qf1, Hq1, rfl, hrQ1, hEk1, hEf1, hqf1⟩ Ha Hu Ho Hi Hr Hm hI hxl hyl) rfl (pf_takeO (pf_cons (pf_cons (pf_cons (pf_cons (pf_cons pf_hereO))))) (pf_takeO (pf_cons (pf_cons (pf_cons (pf_cons (pf_cons pf_hereO))))) (pf_takeO (pf_cons (pf_cons (pf_cons (pf_cons (pf_cons pf_hereO))))) (pf_takeO (pf_cons (pf_cons (pf_cons (pf_cons (pf_cons pf_hereO))))) (pf_takeO (pf_cons (pf_cons (pf_cons (pf_cons (pf_cons pf_hereO))))) (pf_takeO (pf_cons (pf_cons (pf_cons (pf_cons (pf_cons pf_hereO))))) (pf_takeB (pf_cons (pf_cons (pf_cons pf_here))) (pf_takeB (pf_cons (pf_cons (pf_cons pf_here))) (pf_takeO (pf_cons (pf_cons (pf_cons pf_hereO))) (pf_cons (pf_cons pf_lastB))))))))))) (fun v _ h => by exact ⟨h.2.2.2.2.2.1, trivial⟩) rfl fun ⟨⟨Ha1, Hu1, Ho1, Hi1, Hr1, Hm1⟩, hI1⟩ => ?_
     dsimp only
     refine ok_perm pf_sixQ ?_
     refine ops_nil (fin_next rfl (ok_perm (pf_fB (pf_app (pf_app (pf_app (pf_app (pf_app (pf_app pf_here)))))) (pf_fB (pf_app (pf_app (pf_app (pf_app (pf_app (pf_app pf_here)))))) (pf_fB (pf_app (pf_app (pf_app (pf_app (pf_app (pf_app (pf_app (pf_app pf_here)))))))) (pf_fB (pf_app (pf_app (pf_app (pf_app (pf_app (pf_app (pf_app (pf_app pf_here)))))))) (pf_f1 (pf_app (pf_app (pf_app (pf_app (pf_app (pf_app (pf_app pf_last)))))))))))) ?_))
     refine run_seq (run_region (ops_val (yld_field Tryz.runUnderlying41 rfl rfl rfl Tryz.sizeOf3) rfl ?_))
     refine ops_val (yld_load 2 Tryz.isAgg3 rfl rfl rfl) rfl ?_
     rcases form_kind hform with hk | hk | hk
     ·
      refine ops_val (yld_eq (yld_indexA Tryz.runUnderlying98 Tryz.sizeOf97 rfl rfl (by omega) (by omega)) (show _ = Value.pointer (some ⟨b5, 1, none⟩) from by rw [hk]; rfl)) rfl ?_
      refine ops_val (yld_load 4 Tryz.isAgg97 rfl rfl rfl) rfl ?_
      refine ops_val (yld_lenS Tryz.runUnderlying97 rfl) rfl ?_
      refine ops_val (yld_move rfl) rfl (ops_nil (fin_next rfl (run_block (ok_weak (H' := ((b1, .cells #[.slice none 0 0, .slice none 0 0] 28 (0, 0)) :: ((b5, .cells #[.slice none 0 0, .slice (some ⟨r1, 0, none⟩) 6 6, .slice (some ⟨r2, 0, none⟩) 4 4, .slice (some ⟨r3, 0, none⟩) 2 2] 98 (0, 0)) :: ((b6, .cells #[.int .i64 (Fc.kind f), str (Fc.a f), str (Fc.b f), str (Fc.r f), .int .i64 (Fc.lo f), .int .i64 (Fc.hi f)] 41 (0, 0)) :: (Ha1 ++ (Hu1 ++ (Ho1 ++ (Hi1 ++ (Hr1 ++ (Hm1 ++ ((b4, .cells #[sv1] 26 (0, 0)) :: (kb, .map es1 ce1) :: ([(fb, .map ef1 cf1)] ++ Hq1)))))))))))) (pf_takeB (pf_cons (pf_cons (pf_cons pf_here))) (pf_takeB (pf_cons (pf_cons (pf_cons pf_here))) (pf_takeB (pf_cons (pf_cons pf_here)) (pf_takeO (pf_cons (pf_cons pf_hereO)) (pf_takeO (pf_cons (pf_cons pf_hereO)) (pf_takeO (pf_cons (pf_cons pf_hereO)) (pf_takeO (pf_cons (pf_cons pf_hereO)) (pf_takeO (pf_cons (pf_cons pf_hereO)) (pf_takeO (pf_cons (pf_cons pf_hereO)) (pf_takeB pf_here (pf_takeB pf_here (pf_takeO pf_hereO pf_end)))))))))))) (fun v _ h => h) ?_))))
      refine ok_fr [(0, .slice pad (List.length p) pcap), (1, .int .i64 bu), (4, .pointer (some ⟨b1, 0, none⟩)), (7, .pointer (some ⟨b2, 0, none⟩)), (8, .pointer (some ⟨b3, 0, none⟩)), (9, .pointer (some ⟨b4, 0, none⟩)), (10, .slice aad (List.length (atS p)) acap), (11, .pointer (some ⟨b5, 0, none⟩)), (12, .int .i64 (n : Int)), (13, .pointer (some ⟨b6, 0, none⟩)), (60, .slice (some ⟨r1, 0, none⟩) 6 6), (61, .int .i64 6), (62, .int .i64 ((0 : Nat) : Int))] ⟨rfl, rfl, rfl, rfl, rfl, rfl, rfl, rfl, rfl, rfl, rfl, rfl, rfl, trivial⟩ ?_
      refine ok_weak (H' := ((b1, .cells #[.slice none 0 0, .slice none 0 0] 28 (0, 0)) :: ((b5, .cells #[.slice none 0 0, .slice (some ⟨r1, 0, none⟩) 6 6, .slice (some ⟨r2, 0, none⟩) 4 4, .slice (some ⟨r3, 0, none⟩) 2 2] 98 (0, 0)) :: ((b6, .cells #[.int .i64 (Fc.kind f), str (Fc.a f), str (Fc.b f), str (Fc.r f), .int .i64 (Fc.lo f), .int .i64 (Fc.hi f)] 41 (0, 0)) :: (Ha1 ++ (Hu1 ++ (Ho1 ++ (Hi1 ++ (Hr1 ++ (Hm1 ++ ((b4, .cells #[sv1] 26 (0, 0)) :: (kb, .map es1 ce1) :: ([(fb, .map ef1 cf1)] ++ Hq1)))))))))))) (Γ' := [rowF (some ⟨r1, 0, none⟩) (List.flatMap fvC (rlV g 1)), rowF (some ⟨r2, 0, none⟩) (List.flatMap fvC (rlV g 2)), rowF (some ⟨r3, 0, none⟩) (List.flatMap fvC (rlV g 3)), rowF aad (List.flatMap strC (atS p)), mlF Tryz.prog 171 Ky.val Pc.cells pb (pmOf (uniq [] p)) adr, objF g (.cells #[.map (some pb), .slice lad (List.length (loopsOf (uniq [] p))) lcap, .map (some kb), .func (.func 55) #[] #[.pointer (some ⟨b2, 0, none⟩), .pointer (some ⟨b3, 0, none⟩), .pointer (some ⟨b4, 0, none⟩)], .map (some ab), .map (some ub), .map (some ob), .map (some ib), .map (some rb), .map (some sb), .map (some fb)] 94 (0, 0)), objF b3 (.cells #[.int .i64 (m : Int)] 3 (0, 0)), objF b2 (.cells #[.pointer (some ⟨g, 0, none⟩)] 85 (0, 0)), rowF lad (List.flatMap strC (loopsOf (uniq [] p))), rowF pad (List.flatMap Pc.cells p), tabN]) (pf_takeB pf_here (pf_takeB pf_here (pf_takeB pf_here (pf_takeO pf_hereO (pf_takeO pf_hereO (pf_takeO pf_hereO (pf_takeO pf_hereO (pf_takeO pf_hereO (pf_takeO pf_hereO pf_end))))))))) (fun v _ h => by exact ⟨h.1, h.2.1, h.2.2.1, h.2.2.2.1, h.2.2.2.2.1, h.2.2.2.2.2.1, h.2.2.2.2.2.2.1, h.2.2.2.2.2.2.2.1, h.2.2.2.2.2.2.2.2.1, h.2.2.2.2.2.2.2.2.2.1, h.2.2.2.2.2.2.2.2.2.2.1, trivial⟩) ?_
      refine run_loop (ι := {y : Nat × Hp // y.1 ≤ 6 ∧ ((EA m hm (EngB.mk g pb ab ub ob ib rb sb lad lcap (loopsOf (uniq [] p))) b2 b3 b4 kb fb)).St (rls (stpA m) idk (pmOf (uniq [] p)) (Ix.add x (decide (f ∈ fm)) f) f y.1 (q, fm)).1 (rls (stpA m) idk (pmOf (uniq [] p)) (Ix.add x (decide (f ∈ fm)) f) f y.1 (q, fm)).2 y.2 ∧ (y.1 = 0 ∨ ((rls (stpA m) idk (pmOf (uniq [] p)) (Ix.add x (decide (f ∈ fm)) f) f y.1 (q, fm)).1).length ≤ m)}) (fun y => [(0, .slice pad (List.length p) pcap), (1, .int .i64 bu), (4, .pointer (some ⟨b1, 0, none⟩)), (7, .pointer (some ⟨b2, 0, none⟩)), (8, .pointer (some ⟨b3, 0, none⟩)), (9, .pointer (some ⟨b4, 0, none⟩)), (10, .slice aad (List.length (atS p)) acap), (11, .pointer (some ⟨b5, 0, none⟩)), (12, .int .i64 (n : Int)), (13, .pointer (some ⟨b6, 0, none⟩)), (60, .slice (some ⟨r1, 0, none⟩) 6 6), (61, .int .i64 6), (62, .int .i64 (y.1.1 : Int))]) (fun y => ((b1, .cells #[.slice none 0 0, .slice none 0 0] 28 (0, 0)) :: ((b5, .cells #[.slice none 0 0, .slice (some ⟨r1, 0, none⟩) 6 6, .slice (some ⟨r2, 0, none⟩) 4 4, .slice (some ⟨r3, 0, none⟩) 2 2] 98 (0, 0)) :: ((b6, .cells #[.int .i64 (Fc.kind f), str (Fc.a f), str (Fc.b f), str (Fc.r f), .int .i64 (Fc.lo f), .int .i64 (Fc.hi f)] 41 (0, 0)) :: (Ha1 ++ (Hu1 ++ (Ho1 ++ (Hi1 ++ (Hr1 ++ (Hm1 ++ y.1.2)))))))))) (fun y => [rowF (some ⟨r1, 0, none⟩) (List.flatMap fvC (rlV g 1)), rowF (some ⟨r2, 0, none⟩) (List.flatMap fvC (rlV g 2)), rowF (some ⟨r3, 0, none⟩) (List.flatMap fvC (rlV g 3)), rowF aad (List.flatMap strC (atS p)), mlF Tryz.prog 171 Ky.val Pc.cells pb (pmOf (uniq [] p)) adr, objF g (.cells #[.map (some pb), .slice lad (List.length (loopsOf (uniq [] p))) lcap, .map (some kb), .func (.func 55) #[] #[.pointer (some ⟨b2, 0, none⟩), .pointer (some ⟨b3, 0, none⟩), .pointer (some ⟨b4, 0, none⟩)], .map (some ab), .map (some ub), .map (some ob), .map (some ib), .map (some rb), .map (some sb), .map (some fb)] 94 (0, 0)), objF b3 (.cells #[.int .i64 (m : Int)] 3 (0, 0)), objF b2 (.cells #[.pointer (some ⟨g, 0, none⟩)] 85 (0, 0)), rowF lad (List.flatMap strC (loopsOf (uniq [] p))), rowF pad (List.flatMap Pc.cells p), tabN]) (fun y => 6 - y.1.1) ⟨((0 : Nat), ((b4, .cells #[sv1] 26 (0, 0)) :: (kb, .map es1 ce1) :: ([(fb, .map ef1 cf1)] ++ Hq1))), by omega, by exact ⟨sv1, es1, ce1, ef1, cf1, qf1, Hq1, rfl, hrQ1, hEk1, hEf1, hqf1⟩, .inl rfl⟩ ?_
      rintro ⟨⟨j, Hs⟩, hj, hS2, hjm⟩
      dsimp only at hj hS2 hjm ⊢
      refine ok_fr [(0, .slice pad (List.length p) pcap), (1, .int .i64 bu), (4, .pointer (some ⟨b1, 0, none⟩)), (7, .pointer (some ⟨b2, 0, none⟩)), (8, .pointer (some ⟨b3, 0, none⟩)), (9, .pointer (some ⟨b4, 0, none⟩)), (10, .slice aad (List.length (atS p)) acap), (11, .pointer (some ⟨b5, 0, none⟩)), (12, .int .i64 (n : Int)), (13, .pointer (some ⟨b6, 0, none⟩)), (60, .slice (some ⟨r1, 0, none⟩) 6 6), (61, .int .i64 6), (62, .int .i64 (j : Int))] ⟨rfl, rfl, rfl, rfl, rfl, rfl, rfl, rfl, rfl, rfl, rfl, rfl, rfl, trivial⟩ ?_
      refine run_seq (run_region (ops_valB (yld_lss rfl rfl) rfl fun r7 hr7 => ?_))
      refine ops_nil (fin_next rfl (run_seq ?_))
      cases r7
      ·
       replace hr7 := of_decide_eq_false hr7
       have ej : j = 6 := by omega
       have hjl : ((rls (stpA m) idk (pmOf (uniq [] p)) (Ix.add x (decide (f ∈ fm)) f) f j (q, fm)).1).length ≤ m := hjm.resolve_left (by omega)
       rw [ej] at hjl hS2
       refine run_cond_f rfl (run_exit rfl (fin_next rfl (run_region (ops_val (yld_move rfl) rfl (ops_val (yld_arith rfl rfl rfl (wrap64 (by omega) (by omega))) rfl ?_)))))
       refine ops_val (yld_assign rfl) rfl (ops_nil (fin_inv rfl ?_))
       exact ok_again ⟨(n + 1, (rls (stpA m) idk (pmOf (uniq [] p)) (Ix.add x (decide (f ∈ fm)) f) f 6 (q, fm)).1, (rls (stpA m) idk (pmOf (uniq [] p)) (Ix.add x (decide (f ∈ fm)) f) f 6 (q, fm)).2, (Ix.add x (decide (f ∈ fm)) f), Ha1, Hu1, Ho1, Hi1, Hr1, Hm1, Hs), (loopA_next hvk hL hf (by have e : nrl f = 6 := (by unfold nrl; simp [hk]); rw [e]) (by omega)), (by exact hS2), hI1, (ixSz_add hz _ f)⟩ (by dsimp only; omega) ⟨rfl, rfl, rfl, rfl, rfl, rfl, rfl, rfl, rfl, trivial⟩ (pf_takeB pf_here (pf_takeB pf_here (pf_takeO (pf_cons pf_hereO) (pf_takeO (pf_cons pf_hereO) (pf_takeO (pf_cons pf_hereO) (pf_takeO (pf_cons pf_hereO) (pf_takeO (pf_cons pf_hereO) (pf_takeO (pf_cons pf_hereO) pf_lastB)))))))) (fun v _ h => by exact ⟨h.1, h.2.1, h.2.2.1, h.2.2.2.1, h.2.2.2.2.1, h.2.2.2.2.2.1, h.2.2.2.2.2.2.1, h.2.2.2.2.2.2.2.1, h.2.2.2.2.2.2.2.2.1, h.2.2.2.2.2.2.2.2.2.1, h.2.2.2.2.2.2.2.2.2.2.1, trivial⟩)
      ·
       replace hr7 := of_decide_eq_true hr7
       have hlfv : j < List.length (rlV g 1) := by show j < 6; omega
       obtain ⟨fv, hfv⟩ : ∃ e0, (rlV g 1)[j]? = some e0 := ⟨_, List.getElem?_eq_getElem hlfv⟩
       have hmfv : fv ∈ (rlV g 1) := List.mem_of_getElem? hfv
       refine run_cond_t rfl (run_skip (fin_next rfl (run_seq (run_block (run_seq (run_region (ops_val (yld_indexR Tryz.runUnderlying97 Tryz.sizeOf89 rfl rfl (fun v _ h => row_adr (n := 1) fvC_len (by decide) (by exact h.1) hfv) (by omega) (by omega)) rfl ?_)))))))
       refine ops_val (yld_loadR (ad := (some ⟨r1, 0, none⟩)) Tryz.isAgg89 rfl (fun v _ h => by exact h.1) (row_cells fvC_len hfv 0 _ rfl)) rfl ?_
       refine ops_val (yld_assign rfl) rfl (ops_nil (fin_next rfl (run_seq (run_region (ops_val (yld_move rfl) rfl (ops_val (yld_loadS 2 Tryz.isAgg41 Tryz.sizeOf41 rfl rfl rfl) rfl ?_))))))
       obtain ⟨nr, rfl, hT⟩ := rule1_c (EngB.mk g pb ab ub ob ib rb sb lad lcap (loopsOf (uniq [] p))) (EA m hm (EngB.mk g pb ab ub ob ib rb sb lad lcap (loopsOf (uniq [] p))) b2 b3 b4 kb fb) (EngA.mk adr (fun _ => (none, 0)) (fun _ => (none, 0)) (fun _ => (none, 0)) (fun _ => (none, 0)) (fun _ => (none, 0)) (fun _ => (none, 0))) (pmOf (uniq [] p)) (Ix.add x (decide (f ∈ fm)) f) f (rls (stpA m) idk (pmOf (uniq [] p)) (Ix.add x (decide (f ∈ fm)) f) f j (q, fm)).1 (rls (stpA m) idk (pmOf (uniq [] p)) (Ix.add x (decide (f ∈ fm)) f) f j (q, fm)).2 Hs hS2 Ha1 Hu1 Ho1 Hi1 Hr1 Hm1 hI1 hpl hxl1 hyl1 (fun hk => (form3 hform hk).2.2) (fun _ y hy => (hvk y (pm9.1 hy).1).num (.inr (pm9.1 hy).2.1)) hk j hfv
       refine ops_calld (first := [.pointer (some ⟨g, 0, none⟩)]) (vs := [Fc.val f]) (cap := []) hT rfl rfl (pf_six (pf_takeO (pf_cons (pf_cons (pf_cons pf_hereO))) (pf_takeO (pf_cons (pf_cons (pf_cons pf_hereO))) (pf_takeO (pf_cons (pf_cons (pf_cons pf_hereO))) (pf_takeO (pf_cons (pf_cons (pf_cons pf_hereO))) (pf_takeO (pf_cons (pf_cons (pf_cons pf_hereO))) (pf_takeO (pf_cons (pf_cons (pf_cons pf_hereO))) (pf_cons (pf_cons pf_lastB))))))))) (fun v _ h => by exact ⟨h.2.2.2.2.2.1, h.2.2.2.2.1, ⟨h.2.2.2.2.2.2.2.1, h.2.2.2.2.2.2.1, h.2.2.2.2.2.1⟩, trivial⟩) rfl fun ⟨Hs3, hS3⟩ => ?_
       refine ok_perm pf_sixR ?_
       refine ops_nil (fin_next rfl (ok_perm (pf_fB (pf_app (pf_app (pf_app (pf_app (pf_app (pf_app (pf_app pf_here))))))) (pf_fB (pf_app (pf_app (pf_app (pf_app (pf_app (pf_app (pf_app pf_here))))))) (pf_f1 (pf_app (pf_app (pf_app (pf_app (pf_app (pf_app pf_last))))))))) ?_))
       refine run_seq ?_
       refine run_draw' (by kernel_rfl) ?_
       refine any_sq 0 [0, 1, 2, 3, 4, 5, 6] (by kernel_rfl) (fun _ a b => ⟨a, b⟩) ?_
       refine sq_val rfl (yld_loadO Tryz.isAgg85 rfl (fun v _ h => by exact h.2.2.2.2.2.2.2.1) rfl) rfl ?_
       refine sq_val rfl (yld_nilck rfl) rfl ?_
       refine sq_val rfl (yld_field Tryz.runUnderlying94 rfl rfl rfl Tryz.sizeOf88) rfl ?_
       refine sq_val rfl (yld_loadO Tryz.isAgg88 rfl (fun v _ h => by exact h.2.2.2.2.2.1) rfl) rfl ?_
       refine sq_val rfl (yld_eq (yld_lenK (E := (EA m hm (EngB.mk g pb ab ub ob ib rb sb lad lcap (loopsOf (uniq [] p))) b2 b3 b4 kb fb)) (nw := (rls (stpA m) idk (pmOf (uniq [] p)) (Ix.add x (decide (f ∈ fm)) f) f (j + 1) (q, fm)).1) (Hs := Hs3) hS3 Tryz.runUnderlying88 rfl (pf_cons (pf_cons (pf_cons (pf_app (pf_app (pf_app (pf_app (pf_app pf_last))))))))) (show _ = Value.int .i64 (List.length (rls (stpA m) idk (pmOf (uniq [] p)) (Ix.add x (decide (f ∈ fm)) f) f (j + 1) (q, fm)).1 : Int) from rfl)) rfl ?_
       refine sq_val rfl (yld_loadO Tryz.isAgg3 rfl (fun v _ h => by exact h.2.2.2.2.2.2.1) rfl) rfl ?_
       refine sq_valB rfl (yld_gtr rfl rfl) rfl fun r8 hr8 => ?_
       refine sq_nil ?_
       refine any_done (by kernel_rfl) ?_
       refine fin_next rfl ?_
       cases r8
       ·
        replace hr8 := of_decide_eq_false hr8
        refine run_cond_f rfl (run_skip (fin_next rfl (run_region (ops_val (yld_arith rfl rfl rfl (wrap64 (by omega) (by omega))) rfl ?_))))
        refine ops_val (yld_move rfl) rfl (ops_nil (fin_inv rfl ?_))
        exact ok_again ⟨(j + 1, Hs3), hlfv, by exact hS3, .inr (by dsimp only; omega)⟩ (by dsimp only; omega) ⟨rfl, rfl, rfl, rfl, rfl, rfl, rfl, rfl, rfl, rfl, rfl, rfl, rfl, trivial⟩ (pf_takeB pf_here (pf_takeB pf_here (pf_takeB pf_here (pf_takeO pf_hereO (pf_takeO pf_hereO (pf_takeO pf_hereO (pf_takeO pf_hereO (pf_takeO pf_hereO (pf_takeO pf_hereO pf_end))))))))) (fun v _ h => by exact ⟨h.1, h.2.1, h.2.2.1, h.2.2.2.1, h.2.2.2.2.1, h.2.2.2.2.2.1, h.2.2.2.2.2.2.1, h.2.2.2.2.2.2.2.1, h.2.2.2.2.2.2.2.2.1, h.2.2.2.2.2.2.2.2.2.1, h.2.2.2.2.2.2.2.2.2.2.1, trivial⟩)
       ·
        replace hr8 := of_decide_eq_true hr8
        refine run_cond_t rfl (run_exit rfl (fin_next rfl (run_seq (run_seq ?_))))
        refine run_draw' (by kernel_rfl) ?_
        refine any_sq 0 [0, 1, 2, 3, 4, 5, 6] (by kernel_rfl) (fun _ a b => ⟨a, b⟩) ?_
        refine sq_val rfl (yld_loadO Tryz.isAgg85 rfl (fun v _ h => by exact h.2.2.2.2.2.2.2.1) rfl) rfl ?_
        refine sq_val rfl (yld_nilck rfl) rfl ?_
        refine sq_val rfl (yld_field Tryz.runUnderlying94 rfl rfl rfl Tryz.sizeOf88) rfl ?_
        refine sq_val rfl (yld_loadO Tryz.isAgg88 rfl (fun v _ h => by exact h.2.2.2.2.2.1) rfl) rfl ?_
        refine sq_val rfl (yld_eq (yld_lenK (E := (EA m hm (EngB.mk g pb ab ub ob ib rb sb lad lcap (loopsOf (uniq [] p))) b2 b3 b4 kb fb)) (nw := (rls (stpA m) idk (pmOf (uniq [] p)) (Ix.add x (decide (f ∈ fm)) f) f (j + 1) (q, fm)).1) (Hs := Hs3) hS3 Tryz.runUnderlying88 rfl (pf_cons (pf_cons (pf_cons (pf_app (pf_app (pf_app (pf_app (pf_app pf_last))))))))) (show _ = Value.int .i64 (List.length (rls (stpA m) idk (pmOf (uniq [] p)) (Ix.add x (decide (f ∈ fm)) f) f (j + 1) (q, fm)).1 : Int) from rfl)) rfl ?_
        refine sq_val rfl (yld_loadO Tryz.isAgg3 rfl (fun v _ h => by exact h.2.2.2.2.2.2.1) rfl) rfl ?_
        refine sq_valB rfl (yld_gtr rfl rfl) rfl fun r9 hr9 => ?_
        refine sq_nil ?_
        refine any_done (by kernel_rfl) ?_
        refine fin_next rfl ?_
        cases r9
        ·
         replace hr9 := of_decide_eq_false hr9
         omega
        ·
         replace hr9 := of_decide_eq_true hr9
         refine run_cond_t rfl (run_seq (run_seq (run_region (ops_val (yld_move rfl) rfl (ops_valB (yld_lss rfl rfl) rfl fun r10 hr10 => ?_)))))
         refine ops_nil (fin_next rfl ?_)
         cases r10
         ·
          replace hr10 := of_decide_eq_false hr10
          refine run_cond_f rfl (run_skip (fin_next rfl (run_seq (run_region (ops_val (yld_struct strt28 rfl rfl) rfl ?_)))))
          refine ops_store 0 Tryz.sizeOf28 rfl rfl rfl rfl rfl rfl ?_
          refine ops_val (yld_assign rfl) rfl (ops_nil (fin_next rfl (run_ret ?_)))
          exact retR ⟨((Cl.mk [] none 0 [] none 0), 2), allR_none hchk hb0 hb1 hm0' (by rw [if_neg (by assumption)]) (loopA_rule hvk hL hf (j + 1) rfl).1 (loopA_rule hvk hL hf (j + 1) rfl).2.2.1 (by omega)⟩ (fun aa v h1 h2 => res_ct (us := Cl.cells (Cl.mk [] none 0 [] none 0)) 0 Tryz.results18 Tryz.isAgg28 Tryz.sizeOf28 rfl rfl rfl rfl aa v h1 h2) pf_nil (fun v _ h => by exact ⟨.inl rfl, .inl rfl, trivial⟩)
         ·
          replace hr10 := of_decide_eq_true hr10
          refine run_cond_t rfl (run_seq (run_region (ops_val (yld_struct strt28 rfl rfl) rfl ?_)))
          refine ops_store 0 Tryz.sizeOf28 rfl rfl rfl rfl rfl rfl ?_
          refine ops_val (yld_assign rfl) rfl (ops_nil (fin_next rfl (run_ret ?_)))
          exact retR ⟨((Cl.mk [] none 0 [] none 0), 3), allR_none hchk hb0 hb1 hm0' (by rw [if_pos (by assumption)]) (loopA_rule hvk hL hf (j + 1) rfl).1 (loopA_rule hvk hL hf (j + 1) rfl).2.2.1 (by omega)⟩ (fun aa v h1 h2 => res_ct (us := Cl.cells (Cl.mk [] none 0 [] none 0)) 0 Tryz.results18 Tryz.isAgg28 Tryz.sizeOf28 rfl rfl rfl rfl aa v h1 h2) pf_nil (fun v _ h => by exact ⟨.inl rfl, .inl rfl, trivial⟩)
     ·
      refine ops_val (yld_eq (yld_indexA Tryz.runUnderlying98 Tryz.sizeOf97 rfl rfl (by omega) (by omega)) (show _ = Value.pointer (some ⟨b5, 2, none⟩) from by rw [hk]; rfl)) rfl ?_
      refine ops_val (yld_load 4 Tryz.isAgg97 rfl rfl rfl) rfl ?_
      refine ops_val (yld_lenS Tryz.runUnderlying97 rfl) rfl ?_
      refine ops_val (yld_move rfl) rfl (ops_nil (fin_next rfl (run_block (ok_weak (H' := ((b1, .cells #[.slice none 0 0, .slice none 0 0] 28 (0, 0)) :: ((b5, .cells #[.slice none 0 0, .slice (some ⟨r1, 0, none⟩) 6 6, .slice (some ⟨r2, 0, none⟩) 4 4, .slice (some ⟨r3, 0, none⟩) 2 2] 98 (0, 0)) :: ((b6, .cells #[.int .i64 (Fc.kind f), str (Fc.a f), str (Fc.b f), str (Fc.r f), .int .i64 (Fc.lo f), .int .i64 (Fc.hi f)] 41 (0, 0)) :: (Ha1 ++ (Hu1 ++ (Ho1 ++ (Hi1 ++ (Hr1 ++ (Hm1 ++ ((b4, .cells #[sv1] 26 (0, 0)) :: (kb, .map es1 ce1) :: ([(fb, .map ef1 cf1)] ++ Hq1)))))))))))) (pf_takeB (pf_cons (pf_cons (pf_cons pf_here))) (pf_takeB (pf_cons (pf_cons (pf_cons pf_here))) (pf_takeB (pf_cons (pf_cons pf_here)) (pf_takeO (pf_cons (pf_cons pf_hereO)) (pf_takeO (pf_cons (pf_cons pf_hereO)) (pf_takeO (pf_cons (pf_cons pf_hereO)) (pf_takeO (pf_cons (pf_cons pf_hereO)) (pf_takeO (pf_cons (pf_cons pf_hereO)) (pf_takeO (pf_cons (pf_cons pf_hereO)) (pf_takeB pf_here (pf_takeB pf_here (pf_takeO pf_hereO pf_end)))))))))))) (fun v _ h => h) ?_))))
      refine ok_fr [(0, .slice pad (List.length p) pcap), (1, .int .i64 bu), (4, .pointer (some ⟨b1, 0, none⟩)), (7, .pointer (some ⟨b2, 0, none⟩)), (8, .pointer (some ⟨b3, 0, none⟩)), (9, .pointer (some ⟨b4, 0, none⟩)), (10, .slice aad (List.length (atS p)) acap), (11, .pointer (some ⟨b5, 0, none⟩)), (12, .int .i64 (n : Int)), (13, .pointer (some ⟨b6, 0, none⟩)), (60, .slice (some ⟨r2, 0, none⟩) 4 4), (61, .int .i64 4), (62, .int .i64 ((0 : Nat) : Int))] ⟨rfl, rfl, rfl, rfl, rfl, rfl, rfl, rfl, rfl, rfl, rfl, rfl, rfl, trivial⟩ ?_
      refine ok_weak (H' := ((b1, .cells #[.slice none 0 0, .slice none 0 0] 28 (0, 0)) :: ((b5, .cells #[.slice none 0 0, .slice (some ⟨r1, 0, none⟩) 6 6, .slice (some ⟨r2, 0, none⟩) 4 4, .slice (some ⟨r3, 0, none⟩) 2 2] 98 (0, 0)) :: ((b6, .cells #[.int .i64 (Fc.kind f), str (Fc.a f), str (Fc.b f), str (Fc.r f), .int .i64 (Fc.lo f), .int .i64 (Fc.hi f)] 41 (0, 0)) :: (Ha1 ++ (Hu1 ++ (Ho1 ++ (Hi1 ++ (Hr1 ++ (Hm1 ++ ((b4, .cells #[sv1] 26 (0, 0)) :: (kb, .map es1 ce1) :: ([(fb, .map ef1 cf1)] ++ Hq1)))))))))))) (Γ' := [rowF (some ⟨r1, 0, none⟩) (List.flatMap fvC (rlV g 1)), rowF (some ⟨r2, 0, none⟩) (List.flatMap fvC (rlV g 2)), rowF (some ⟨r3, 0, none⟩) (List.flatMap fvC (rlV g 3)), rowF aad (List.flatMap strC (atS p)), mlF Tryz.prog 171 Ky.val Pc.cells pb (pmOf (uniq [] p)) adr, objF g (.cells #[.map (some pb), .slice lad (List.length (loopsOf (uniq [] p))) lcap, .map (some kb), .func (.func 55) #[] #[.pointer (some ⟨b2, 0, none⟩), .pointer (some ⟨b3, 0, none⟩), .pointer (some ⟨b4, 0, none⟩)], .map (some ab), .map (some ub), .map (some ob), .map (some ib), .map (some rb), .map (some sb), .map (some fb)] 94 (0, 0)), objF b3 (.cells #[.int .i64 (m : Int)] 3 (0, 0)), objF b2 (.cells #[.pointer (some ⟨g, 0, none⟩)] 85 (0, 0)), rowF lad (List.flatMap strC (loopsOf (uniq [] p))), rowF pad (List.flatMap Pc.cells p), tabN]) (pf_takeB pf_here (pf_takeB pf_here (pf_takeB pf_here (pf_takeO pf_hereO (pf_takeO pf_hereO (pf_takeO pf_hereO (pf_takeO pf_hereO (pf_takeO pf_hereO (pf_takeO pf_hereO pf_end))))))))) (fun v _ h => by exact ⟨h.1, h.2.1, h.2.2.1, h.2.2.2.1, h.2.2.2.2.1, h.2.2.2.2.2.1, h.2.2.2.2.2.2.1, h.2.2.2.2.2.2.2.1, h.2.2.2.2.2.2.2.2.1, h.2.2.2.2.2.2.2.2.2.1, h.2.2.2.2.2.2.2.2.2.2.1, trivial⟩) ?_
      refine run_loop (ι := {y : Nat × Hp // y.1 ≤ 4 ∧ ((EA m hm (EngB.mk g pb ab ub ob ib rb sb lad lcap (loopsOf (uniq [] p))) b2 b3 b4 kb fb)).St (rls (stpA m) idk (pmOf (uniq [] p)) (Ix.add x (decide (f ∈ fm)) f) f y.1 (q, fm)).1 (rls (stpA m) idk (pmOf (uniq [] p)) (Ix.add x (decide (f ∈ fm)) f) f y.1 (q, fm)).2 y.2 ∧ (y.1 = 0 ∨ ((rls (stpA m) idk (pmOf (uniq [] p)) (Ix.add x (decide (f ∈ fm)) f) f y.1 (q, fm)).1).length ≤ m)}) (fun y => [(0, .slice pad (List.length p) pcap), (1, .int .i64 bu), (4, .pointer (some ⟨b1, 0, none⟩)), (7, .pointer (some ⟨b2, 0, none⟩)), (8, .pointer (some ⟨b3, 0, none⟩)), (9, .pointer (some ⟨b4, 0, none⟩)), (10, .slice aad (List.length (atS p)) acap), (11, .pointer (some ⟨b5, 0, none⟩)), (12, .int .i64 (n : Int)), (13, .pointer (some ⟨b6, 0, none⟩)), (60, .slice (some ⟨r2, 0, none⟩) 4 4), (61, .int .i64 4), (62, .int .i64 (y.1.1 : Int))]) (fun y => ((b1, .cells #[.slice none 0 0, .slice none 0 0] 28 (0, 0)) :: ((b5, .cells #[.slice none 0 0, .slice (some ⟨r1, 0, none⟩) 6 6, .slice (some ⟨r2, 0, none⟩) 4 4, .slice (some ⟨r3, 0, none⟩) 2 2] 98 (0, 0)) :: ((b6, .cells #[.int .i64 (Fc.kind f), str (Fc.a f), str (Fc.b f), str (Fc.r f), .int .i64 (Fc.lo f), .int .i64 (Fc.hi f)] 41 (0, 0)) :: (Ha1 ++ (Hu1 ++ (Ho1 ++ (Hi1 ++ (Hr1 ++ (Hm1 ++ y.1.2)))))))))) (fun y => [rowF (some ⟨r1, 0, none⟩) (List.flatMap fvC (rlV g 1)), rowF (some ⟨r2, 0, none⟩) (List.flatMap fvC (rlV g 2)), rowF (some ⟨r3, 0, none⟩) (List.flatMap fvC (rlV g 3)), rowF aad (List.flatMap strC (atS p)), mlF Tryz.prog 171 Ky.val Pc.cells pb (pmOf (uniq [] p)) adr, objF g (.cells #[.map (some pb), .slice lad (List.length (loopsOf (uniq [] p))) lcap, .map (some kb), .func (.func 55) #[] #[.pointer (some ⟨b2, 0, none⟩), .pointer (some ⟨b3, 0, none⟩), .pointer (some ⟨b4, 0, none⟩)], .map (some ab), .map (some ub), .map (some ob), .map (some ib), .map (some rb), .map (some sb), .map (some fb)] 94 (0, 0)), objF b3 (.cells #[.int .i64 (m : Int)] 3 (0, 0)), objF b2 (.cells #[.pointer (some ⟨g, 0, none⟩)] 85 (0, 0)), rowF lad (List.flatMap strC (loopsOf (uniq [] p))), rowF pad (List.flatMap Pc.cells p), tabN]) (fun y => 4 - y.1.1) ⟨((0 : Nat), ((b4, .cells #[sv1] 26 (0, 0)) :: (kb, .map es1 ce1) :: ([(fb, .map ef1 cf1)] ++ Hq1))), by omega, by exact ⟨sv1, es1, ce1, ef1, cf1, qf1, Hq1, rfl, hrQ1, hEk1, hEf1, hqf1⟩, .inl rfl⟩ ?_
      rintro ⟨⟨j, Hs⟩, hj, hS2, hjm⟩
      dsimp only at hj hS2 hjm ⊢
      refine ok_fr [(0, .slice pad (List.length p) pcap), (1, .int .i64 bu), (4, .pointer (some ⟨b1, 0, none⟩)), (7, .pointer (some ⟨b2, 0, none⟩)), (8, .pointer (some ⟨b3, 0, none⟩)), (9, .pointer (some ⟨b4, 0, none⟩)), (10, .slice aad (List.length (atS p)) acap), (11, .pointer (some ⟨b5, 0, none⟩)), (12, .int .i64 (n : Int)), (13, .pointer (some ⟨b6, 0, none⟩)), (60, .slice (some ⟨r2, 0, none⟩) 4 4), (61, .int .i64 4), (62, .int .i64 (j : Int))] ⟨rfl, rfl, rfl, rfl, rfl, rfl, rfl, rfl, rfl, rfl, rfl, rfl, rfl, trivial⟩ ?_
      refine run_seq (run_region (ops_valB (yld_lss rfl rfl) rfl fun r11 hr11 => ?_))
      refine ops_nil (fin_next rfl (run_seq ?_))
      cases r11
      ·
       replace hr11 := of_decide_eq_false hr11
       have ej : j = 4 := by omega
       have hjl : ((rls (stpA m) idk (pmOf (uniq [] p)) (Ix.add x (decide (f ∈ fm)) f) f j (q, fm)).1).length ≤ m := hjm.resolve_left (by omega)
       rw [ej] at hjl hS2
       refine run_cond_f rfl (run_exit rfl (fin_next rfl (run_region (ops_val (yld_move rfl) rfl (ops_val (yld_arith rfl rfl rfl (wrap64 (by omega) (by omega))) rfl ?_)))))
       refine ops_val (yld_assign rfl) rfl (ops_nil (fin_inv rfl ?_))
       exact ok_again ⟨(n + 1, (rls (stpA m) idk (pmOf (uniq [] p)) (Ix.add x (decide (f ∈ fm)) f) f 4 (q, fm)).1, (rls (stpA m) idk (pmOf (uniq [] p)) (Ix.add x (decide (f ∈ fm)) f) f 4 (q, fm)).2, (Ix.add x (decide (f ∈ fm)) f), Ha1, Hu1, Ho1, Hi1, Hr1, Hm1, Hs), (loopA_next hvk hL hf (by have e : nrl f = 4 := (by unfold nrl; simp [hk]); rw [e]) (by omega)), (by exact hS2), hI1, (ixSz_add hz _ f)⟩ (by dsimp only; omega) ⟨rfl, rfl, rfl, rfl, rfl, rfl, rfl, rfl, rfl, trivial⟩ (pf_takeB pf_here (pf_takeB pf_here (pf_takeO (pf_cons pf_hereO) (pf_takeO (pf_cons pf_hereO) (pf_takeO (pf_cons pf_hereO) (pf_takeO (pf_cons pf_hereO) (pf_takeO (pf_cons pf_hereO) (pf_takeO (pf_cons pf_hereO) pf_lastB)))))))) (fun v _ h => by exact ⟨h.1, h.2.1, h.2.2.1, h.2.2.2.1, h.2.2.2.2.1, h.2.2.2.2.2.1, h.2.2.2.2.2.2.1, h.2.2.2.2.2.2.2.1, h.2.2.2.2.2.2.2.2.1, h.2.2.2.2.2.2.2.2.2.1, h.2.2.2.2.2.2.2.2.2.2.1, trivial⟩)
      ·
       replace hr11 := of_decide_eq_true hr11
       have hlfv : j < List.length (rlV g 2) := by show j < 4; omega
       obtain ⟨fv, hfv⟩ : ∃ e0, (rlV g 2)[j]? = some e0 := ⟨_, List.getElem?_eq_getElem hlfv⟩
       have hmfv : fv ∈ (rlV g 2) := List.mem_of_getElem? hfv
       refine run_cond_t rfl (run_skip (fin_next rfl (run_seq (run_block (run_seq (run_region (ops_val (yld_indexR Tryz.runUnderlying97 Tryz.sizeOf89 rfl rfl (fun v _ h => row_adr (n := 1) fvC_len (by decide) (by exact h.2.1) hfv) (by omega) (by omega)) rfl ?_)))))))
       refine ops_val (yld_loadR (ad := (some ⟨r2, 0, none⟩)) Tryz.isAgg89 rfl (fun v _ h => by exact h.2.1) (row_cells fvC_len hfv 0 _ rfl)) rfl ?_
       refine ops_val (yld_assign rfl) rfl (ops_nil (fin_next rfl (run_seq (run_region (ops_val (yld_move rfl) rfl (ops_val (yld_loadS 2 Tryz.isAgg41 Tryz.sizeOf41 rfl rfl rfl) rfl ?_))))))
       obtain ⟨nr, rfl, hT⟩ := rule2_c (EngB.mk g pb ab ub ob ib rb sb lad lcap (loopsOf (uniq [] p))) (EA m hm (EngB.mk g pb ab ub ob ib rb sb lad lcap (loopsOf (uniq [] p))) b2 b3 b4 kb fb) (EngA.mk adr (fun _ => (none, 0)) (fun _ => (none, 0)) (fun _ => (none, 0)) (fun _ => (none, 0)) (fun _ => (none, 0)) (fun _ => (none, 0))) (pmOf (uniq [] p)) (Ix.add x (decide (f ∈ fm)) f) f (rls (stpA m) idk (pmOf (uniq [] p)) (Ix.add x (decide (f ∈ fm)) f) f j (q, fm)).1 (rls (stpA m) idk (pmOf (uniq [] p)) (Ix.add x (decide (f ∈ fm)) f) f j (q, fm)).2 Hs hS2 Ha1 Hu1 Ho1 Hi1 Hr1 Hm1 hI1 hpl hxl1 hyl1 (fun hk => (form3 hform hk).2.2) (fun _ y hy => (hvk y (pm9.1 hy).1).num (.inr (pm9.1 hy).2.1)) hk j hfv
       refine ops_calld (first := [.pointer (some ⟨g, 0, none⟩)]) (vs := [Fc.val f]) (cap := []) hT rfl rfl (pf_six (pf_takeO (pf_cons (pf_cons (pf_cons pf_hereO))) (pf_takeO (pf_cons (pf_cons (pf_cons pf_hereO))) (pf_takeO (pf_cons (pf_cons (pf_cons pf_hereO))) (pf_takeO (pf_cons (pf_cons (pf_cons pf_hereO))) (pf_takeO (pf_cons (pf_cons (pf_cons pf_hereO))) (pf_takeO (pf_cons (pf_cons (pf_cons pf_hereO))) (pf_cons (pf_cons pf_lastB))))))))) (fun v _ h => by exact ⟨h.2.2.2.2.2.1, h.2.2.2.2.1, ⟨h.2.2.2.2.2.2.2.1, h.2.2.2.2.2.2.1, h.2.2.2.2.2.1⟩, trivial⟩) rfl fun ⟨Hs3, hS3⟩ => ?_
       refine ok_perm pf_sixR ?_
       refine ops_nil (fin_next rfl (ok_perm (pf_fB (pf_app (pf_app (pf_app (pf_app (pf_app (pf_app (pf_app pf_here))))))) (pf_fB (pf_app (pf_app (pf_app (pf_app (pf_app (pf_app (pf_app pf_here))))))) (pf_f1 (pf_app (pf_app (pf_app (pf_app (pf_app (pf_app pf_last))))))))) ?_))
       refine run_seq ?_
       refine run_draw' (by kernel_rfl) ?_
       refine any_sq 0 [0, 1, 2, 3, 4, 5, 6] (by kernel_rfl) (fun _ a b => ⟨a, b⟩) ?_
       refine sq_val rfl (yld_loadO Tryz.isAgg85 rfl (fun v _ h => by exact h.2.2.2.2.2.2.2.1) rfl) rfl ?_
       refine sq_val rfl (yld_nilck rfl) rfl ?_
       refine sq_val rfl (yld_field Tryz.runUnderlying94 rfl rfl rfl Tryz.sizeOf88) rfl ?_
       refine sq_val rfl (yld_loadO Tryz.isAgg88 rfl (fun v _ h => by exact h.2.2.2.2.2.1) rfl) rfl ?_
       refine sq_val rfl (yld_eq (yld_lenK (E := (EA m hm (EngB.mk g pb ab ub ob ib rb sb lad lcap (loopsOf (uniq [] p))) b2 b3 b4 kb fb)) (nw := (rls (stpA m) idk (pmOf (uniq [] p)) (Ix.add x (decide (f ∈ fm)) f) f (j + 1) (q, fm)).1) (Hs := Hs3) hS3 Tryz.runUnderlying88 rfl (pf_cons (pf_cons (pf_cons (pf_app (pf_app (pf_app (pf_app (pf_app pf_last))))))))) (show _ = Value.int .i64 (List.length (rls (stpA m) idk (pmOf (uniq [] p)) (Ix.add x (decide (f ∈ fm)) f) f (j + 1) (q, fm)).1 : Int) from rfl)) rfl ?_
       refine sq_val rfl (yld_loadO Tryz.isAgg3 rfl (fun v _ h => by exact h.2.2.2.2.2.2.1) rfl) rfl ?_
       refine sq_valB rfl (yld_gtr rfl rfl) rfl fun r12 hr12 => ?_
       refine sq_nil ?_
       refine any_done (by kernel_rfl) ?_
       refine fin_next rfl ?_
       cases r12
       ·
        replace hr12 := of_decide_eq_false hr12
        refine run_cond_f rfl (run_skip (fin_next rfl (run_region (ops_val (yld_arith rfl rfl rfl (wrap64 (by omega) (by omega))) rfl ?_))))
        refine ops_val (yld_move rfl) rfl (ops_nil (fin_inv rfl ?_))
        exact ok_again ⟨(j + 1, Hs3), hlfv, by exact hS3, .inr (by dsimp only; omega)⟩ (by dsimp only; omega) ⟨rfl, rfl, rfl, rfl, rfl, rfl, rfl, rfl, rfl, rfl, rfl, rfl, rfl, trivial⟩ (pf_takeB pf_here (pf_takeB pf_here (pf_takeB pf_here (pf_takeO pf_hereO (pf_takeO pf_hereO (pf_takeO pf_hereO (pf_takeO pf_hereO (pf_takeO pf_hereO (pf_takeO pf_hereO pf_end))))))))) (fun v _ h => by exact ⟨h.1, h.2.1, h.2.2.1, h.2.2.2.1, h.2.2.2.2.1, h.2.2.2.2.2.1, h.2.2.2.2.2.2.1, h.2.2.2.2.2.2.2.1, h.2.2.2.2.2.2.2.2.1, h.2.2.2.2.2.2.2.2.2.1, h.2.2.2.2.2.2.2.2.2.2.1, trivial⟩)
       ·
        replace hr12 := of_decide_eq_true hr12
        refine run_cond_t rfl (run_exit rfl (fin_next rfl (run_seq (run_seq ?_))))
        refine run_draw' (by kernel_rfl) ?_
        refine any_sq 0 [0, 1, 2, 3, 4, 5, 6] (by kernel_rfl) (fun _ a b => ⟨a, b⟩) ?_
        refine sq_val rfl (yld_loadO Tryz.isAgg85 rfl (fun v _ h => by exact h.2.2.2.2.2.2.2.1) rfl) rfl ?_
        refine sq_val rfl (yld_nilck rfl) rfl ?_
        refine sq_val rfl (yld_field Tryz.runUnderlying94 rfl rfl rfl Tryz.sizeOf88) rfl ?_
        refine sq_val rfl (yld_loadO Tryz.isAgg88 rfl (fun v _ h => by exact h.2.2.2.2.2.1) rfl) rfl ?_
        refine sq_val rfl (yld_eq (yld_lenK (E := (EA m hm (EngB.mk g pb ab ub ob ib rb sb lad lcap (loopsOf (uniq [] p))) b2 b3 b4 kb fb)) (nw := (rls (stpA m) idk (pmOf (uniq [] p)) (Ix.add x (decide (f ∈ fm)) f) f (j + 1) (q, fm)).1) (Hs := Hs3) hS3 Tryz.runUnderlying88 rfl (pf_cons (pf_cons (pf_cons (pf_app (pf_app (pf_app (pf_app (pf_app pf_last))))))))) (show _ = Value.int .i64 (List.length (rls (stpA m) idk (pmOf (uniq [] p)) (Ix.add x (decide (f ∈ fm)) f) f (j + 1) (q, fm)).1 : Int) from rfl)) rfl ?_
        refine sq_val rfl (yld_loadO Tryz.isAgg3 rfl (fun v _ h => by exact h.2.2.2.2.2.2.1) rfl) rfl ?_
        refine sq_valB rfl (yld_gtr rfl rfl) rfl fun r13 hr13 => ?_
        refine sq_nil ?_
        refine any_done (by kernel_rfl) ?_
        refine fin_next rfl ?_
        cases r13
        ·
         replace hr13 := of_decide_eq_false hr13
         omega
        ·
         replace hr13 := of_decide_eq_true hr13
         refine run_cond_t rfl (run_seq (run_seq (run_region (ops_val (yld_move rfl) rfl (ops_valB (yld_lss rfl rfl) rfl fun r14 hr14 => ?_)))))
         refine ops_nil (fin_next rfl ?_)
         cases r14
         ·
          replace hr14 := of_decide_eq_false hr14
          refine run_cond_f rfl (run_skip (fin_next rfl (run_seq (run_region (ops_val (yld_struct strt28 rfl rfl) rfl ?_)))))
          refine ops_store 0 Tryz.sizeOf28 rfl rfl rfl rfl rfl rfl ?_
          refine ops_val (yld_assign rfl) rfl (ops_nil (fin_next rfl (run_ret ?_)))
          exact retR ⟨((Cl.mk [] none 0 [] none 0), 2), allR_none hchk hb0 hb1 hm0' (by rw [if_neg (by assumption)]) (loopA_rule hvk hL hf (j + 1) rfl).1 (loopA_rule hvk hL hf (j + 1) rfl).2.2.1 (by omega)⟩ (fun aa v h1 h2 => res_ct (us := Cl.cells (Cl.mk [] none 0 [] none 0)) 0 Tryz.results18 Tryz.isAgg28 Tryz.sizeOf28 rfl rfl rfl rfl aa v h1 h2) pf_nil (fun v _ h => by exact ⟨.inl rfl, .inl rfl, trivial⟩)
         ·
          replace hr14 := of_decide_eq_true hr14
          refine run_cond_t rfl (run_seq (run_region (ops_val (yld_struct strt28 rfl rfl) rfl ?_)))
          refine ops_store 0 Tryz.sizeOf28 rfl rfl rfl rfl rfl rfl ?_
          refine ops_val (yld_assign rfl) rfl (ops_nil (fin_next rfl (run_ret ?_)))
          exact retR ⟨((Cl.mk [] none 0 [] none 0), 3), allR_none hchk hb0 hb1 hm0' (by rw [if_pos (by assumption)]) (loopA_rule hvk hL hf (j + 1) rfl).1 (loopA_rule hvk hL hf (j + 1) rfl).2.2.1 (by omega)⟩ (fun aa v h1 h2 => res_ct (us := Cl.cells (Cl.mk [] none 0 [] none 0)) 0 Tryz.results18 Tryz.isAgg28 Tryz.sizeOf28 rfl rfl rfl rfl aa v h1 h2) pf_nil (fun v _ h => by exact ⟨.inl rfl, .inl rfl, trivial⟩)
     ·
      refine ops_val (yld_eq (yld_indexA Tryz.runUnderlying98 Tryz.sizeOf97 rfl rfl (by omega) (by omega)) (show _ = Value.pointer (some ⟨b5, 3, none⟩) from by rw [hk]; rfl)) rfl ?_
      refine ops_val (yld_load 4 Tryz.isAgg97 rfl rfl rfl) rfl ?_
      refine ops_val (yld_lenS Tryz.runUnderlying97 rfl) rfl ?_
      refine ops_val (yld_move rfl) rfl (ops_nil (fin_next rfl (run_block (ok_weak (H' := ((b1, .cells #[.slice none 0 0, .slice none 0 0] 28 (0, 0)) :: ((b5, .cells #[.slice none 0 0, .slice (some ⟨r1, 0, none⟩) 6 6, .slice (some ⟨r2, 0, none⟩) 4 4, .slice (some ⟨r3, 0, none⟩) 2 2] 98 (0, 0)) :: ((b6, .cells #[.int .i64 (Fc.kind f), str (Fc.a f), str (Fc.b f), str (Fc.r f), .int .i64 (Fc.lo f), .int .i64 (Fc.hi f)] 41 (0, 0)) :: (Ha1 ++ (Hu1 ++ (Ho1 ++ (Hi1 ++ (Hr1 ++ (Hm1 ++ ((b4, .cells #[sv1] 26 (0, 0)) :: (kb, .map es1 ce1) :: ([(fb, .map ef1 cf1)] ++ Hq1)))))))))))) (pf_takeB (pf_cons (pf_cons (pf_cons pf_here))) (pf_takeB (pf_cons (pf_cons (pf_cons pf_here))) (pf_takeB (pf_cons (pf_cons pf_here)) (pf_takeO (pf_cons (pf_cons pf_hereO)) (pf_takeO (pf_cons (pf_cons pf_hereO)) (pf_takeO (pf_cons (pf_cons pf_hereO)) (pf_takeO (pf_cons (pf_cons pf_hereO)) (pf_takeO (pf_cons (pf_cons pf_hereO)) (pf_takeO (pf_cons (pf_cons pf_hereO)) (pf_takeB pf_here (pf_takeB pf_here (pf_takeO pf_hereO pf_end)))))))))))) (fun v _ h => h) ?_))))
      refine ok_fr [(0, .slice pad (List.length p) pcap), (1, .int .i64 bu), (4, .pointer (some ⟨b1, 0, none⟩)), (7, .pointer (some ⟨b2, 0, none⟩)), (8, .pointer (some ⟨b3, 0, none⟩)), (9, .pointer (some ⟨b4, 0, none⟩)), (10, .slice aad (List.length (atS p)) acap), (11, .pointer (some ⟨b5, 0, none⟩)), (12, .int .i64 (n : Int)), (13, .pointer (some ⟨b6, 0, none⟩)), (60, .slice (some ⟨r3, 0, none⟩) 2 2), (61, .int .i64 2), (62, .int .i64 ((0 : Nat) : Int))] ⟨rfl, rfl, rfl, rfl, rfl, rfl, rfl, rfl, rfl, rfl, rfl, rfl, rfl, trivial⟩ ?_
      refine ok_weak (H' := ((b1, .cells #[.slice none 0 0, .slice none 0 0] 28 (0, 0)) :: ((b5, .cells #[.slice none 0 0, .slice (some ⟨r1, 0, none⟩) 6 6, .slice (some ⟨r2, 0, none⟩) 4 4, .slice (some ⟨r3, 0, none⟩) 2 2] 98 (0, 0)) :: ((b6, .cells #[.int .i64 (Fc.kind f), str (Fc.a f), str (Fc.b f), str (Fc.r f), .int .i64 (Fc.lo f), .int .i64 (Fc.hi f)] 41 (0, 0)) :: (Ha1 ++ (Hu1 ++ (Ho1 ++ (Hi1 ++ (Hr1 ++ (Hm1 ++ ((b4, .cells #[sv1] 26 (0, 0)) :: (kb, .map es1 ce1) :: ([(fb, .map ef1 cf1)] ++ Hq1)))))))))))) (Γ' := [rowF (some ⟨r1, 0, none⟩) (List.flatMap fvC (rlV g 1)), rowF (some ⟨r2, 0, none⟩) (List.flatMap fvC (rlV g 2)), rowF (some ⟨r3, 0, none⟩) (List.flatMap fvC (rlV g 3)), rowF aad (List.flatMap strC (atS p)), mlF Tryz.prog 171 Ky.val Pc.cells pb (pmOf (uniq [] p)) adr, objF g (.cells #[.map (some pb), .slice lad (List.length (loopsOf (uniq [] p))) lcap, .map (some kb), .func (.func 55) #[] #[.pointer (some ⟨b2, 0, none⟩), .pointer (some ⟨b3, 0, none⟩), .pointer (some ⟨b4, 0, none⟩)], .map (some ab), .map (some ub), .map (some ob), .map (some ib), .map (some rb), .map (some sb), .map (some fb)] 94 (0, 0)), objF b3 (.cells #[.int .i64 (m : Int)] 3 (0, 0)), objF b2 (.cells #[.pointer (some ⟨g, 0, none⟩)] 85 (0, 0)), rowF lad (List.flatMap strC (loopsOf (uniq [] p))), rowF pad (List.flatMap Pc.cells p), tabN]) (pf_takeB pf_here (pf_takeB pf_here (pf_takeB pf_here (pf_takeO pf_hereO (pf_takeO pf_hereO (pf_takeO pf_hereO (pf_takeO pf_hereO (pf_takeO pf_hereO (pf_takeO pf_hereO pf_end))))))))) (fun v _ h => by exact ⟨h.1, h.2.1, h.2.2.1, h.2.2.2.1, h.2.2.2.2.1, h.2.2.2.2.2.1, h.2.2.2.2.2.2.1, h.2.2.2.2.2.2.2.1, h.2.2.2.2.2.2.2.2.1, h.2.2.2.2.2.2.2.2.2.1, h.2.2.2.2.2.2.2.2.2.2.1, trivial⟩) ?_
      refine run_loop (ι := {y : Nat × Hp // y.1 ≤ 2 ∧ ((EA m hm (EngB.mk g pb ab ub ob ib rb sb lad lcap (loopsOf (uniq [] p))) b2 b3 b4 kb fb)).St (rls (stpA m) idk (pmOf (uniq [] p)) (Ix.add x (decide (f ∈ fm)) f) f y.1 (q, fm)).1 (rls (stpA m) idk (pmOf (uniq [] p)) (Ix.add x (decide (f ∈ fm)) f) f y.1 (q, fm)).2 y.2 ∧ (y.1 = 0 ∨ ((rls (stpA m) idk (pmOf (uniq [] p)) (Ix.add x (decide (f ∈ fm)) f) f y.1 (q, fm)).1).length ≤ m)}) (fun y => [(0, .slice pad (List.length p) pcap), (1, .int .i64 bu), (4, .pointer (some ⟨b1, 0, none⟩)), (7, .pointer (some ⟨b2, 0, none⟩)), (8, .pointer (some ⟨b3, 0, none⟩)), (9, .pointer (some ⟨b4, 0, none⟩)), (10, .slice aad (List.length (atS p)) acap), (11, .pointer (some ⟨b5, 0, none⟩)), (12, .int .i64 (n : Int)), (13, .pointer (some ⟨b6, 0, none⟩)), (60, .slice (some ⟨r3, 0, none⟩) 2 2), (61, .int .i64 2), (62, .int .i64 (y.1.1 : Int))]) (fun y => ((b1, .cells #[.slice none 0 0, .slice none 0 0] 28 (0, 0)) :: ((b5, .cells #[.slice none 0 0, .slice (some ⟨r1, 0, none⟩) 6 6, .slice (some ⟨r2, 0, none⟩) 4 4, .slice (some ⟨r3, 0, none⟩) 2 2] 98 (0, 0)) :: ((b6, .cells #[.int .i64 (Fc.kind f), str (Fc.a f), str (Fc.b f), str (Fc.r f), .int .i64 (Fc.lo f), .int .i64 (Fc.hi f)] 41 (0, 0)) :: (Ha1 ++ (Hu1 ++ (Ho1 ++ (Hi1 ++ (Hr1 ++ (Hm1 ++ y.1.2)))))))))) (fun y => [rowF (some ⟨r1, 0, none⟩) (List.flatMap fvC (rlV g 1)), rowF (some ⟨r2, 0, none⟩) (List.flatMap fvC (rlV g 2)), rowF (some ⟨r3, 0, none⟩) (List.flatMap fvC (rlV g 3)), rowF aad (List.flatMap strC (atS p)), mlF Tryz.prog 171 Ky.val Pc.cells pb (pmOf (uniq [] p)) adr, objF g (.cells #[.map (some pb), .slice lad (List.length (loopsOf (uniq [] p))) lcap, .map (some kb), .func (.func 55) #[] #[.pointer (some ⟨b2, 0, none⟩), .pointer (some ⟨b3, 0, none⟩), .pointer (some ⟨b4, 0, none⟩)], .map (some ab), .map (some ub), .map (some ob), .map (some ib), .map (some rb), .map (some sb), .map (some fb)] 94 (0, 0)), objF b3 (.cells #[.int .i64 (m : Int)] 3 (0, 0)), objF b2 (.cells #[.pointer (some ⟨g, 0, none⟩)] 85 (0, 0)), rowF lad (List.flatMap strC (loopsOf (uniq [] p))), rowF pad (List.flatMap Pc.cells p), tabN]) (fun y => 2 - y.1.1) ⟨((0 : Nat), ((b4, .cells #[sv1] 26 (0, 0)) :: (kb, .map es1 ce1) :: ([(fb, .map ef1 cf1)] ++ Hq1))), by omega, by exact ⟨sv1, es1, ce1, ef1, cf1, qf1, Hq1, rfl, hrQ1, hEk1, hEf1, hqf1⟩, .inl rfl⟩ ?_
      rintro ⟨⟨j, Hs⟩, hj, hS2, hjm⟩
      dsimp only at hj hS2 hjm ⊢
      refine ok_fr [(0, .slice pad (List.length p) pcap), (1, .int .i64 bu), (4, .pointer (some ⟨b1, 0, none⟩)), (7, .pointer (some ⟨b2, 0, none⟩)), (8, .pointer (some ⟨b3, 0, none⟩)), (9, .pointer (some ⟨b4, 0, none⟩)), (10, .slice aad (List.length (atS p)) acap), (11, .pointer (some ⟨b5, 0, none⟩)), (12, .int .i64 (n : Int)), (13, .pointer (some ⟨b6, 0, none⟩)), (60, .slice (some ⟨r3, 0, none⟩) 2 2), (61, .int .i64 2), (62, .int .i64 (j : Int))] ⟨rfl, rfl, rfl, rfl, rfl, rfl, rfl, rfl, rfl, rfl, rfl, rfl, rfl, trivial⟩ ?_
      refine run_seq (run_region (ops_valB (yld_lss rfl rfl) rfl fun r15 hr15 => ?_))
      refine ops_nil (fin_next rfl (run_seq ?_))
      cases r15
      ·
       replace hr15 := of_decide_eq_false hr15
       have ej : j = 2 := by omega
       have hjl : ((rls (stpA m) idk (pmOf (uniq [] p)) (Ix.add x (decide (f ∈ fm)) f) f j (q, fm)).1).length ≤ m := hjm.resolve_left (by omega)
       rw [ej] at hjl hS2
       refine run_cond_f rfl (run_exit rfl (fin_next rfl (run_region (ops_val (yld_move rfl) rfl (ops_val (yld_arith rfl rfl rfl (wrap64 (by omega) (by omega))) rfl ?_)))))
       refine ops_val (yld_assign rfl) rfl (ops_nil (fin_inv rfl ?_))
       exact ok_again ⟨(n + 1, (rls (stpA m) idk (pmOf (uniq [] p)) (Ix.add x (decide (f ∈ fm)) f) f 2 (q, fm)).1, (rls (stpA m) idk (pmOf (uniq [] p)) (Ix.add x (decide (f ∈ fm)) f) f 2 (q, fm)).2, (Ix.add x (decide (f ∈ fm)) f), Ha1, Hu1, Ho1, Hi1, Hr1, Hm1, Hs), (loopA_next hvk hL hf (by have e : nrl f = 2 := (by unfold nrl; simp [hk]); rw [e]) (by omega)), (by exact hS2), hI1, (ixSz_add hz _ f)⟩ (by dsimp only; omega) ⟨rfl, rfl, rfl, rfl, rfl, rfl, rfl, rfl, rfl, trivial⟩ (pf_takeB pf_here (pf_takeB pf_here (pf_takeO (pf_cons pf_hereO) (pf_takeO (pf_cons pf_hereO) (pf_takeO (pf_cons pf_hereO) (pf_takeO (pf_cons pf_hereO) (pf_takeO (pf_cons pf_hereO) (pf_takeO (pf_cons pf_hereO) pf_lastB)))))))) (fun v _ h => by exact ⟨h.1, h.2.1, h.2.2.1, h.2.2.2.1, h.2.2.2.2.1, h.2.2.2.2.2.1, h.2.2.2.2.2.2.1, h.2.2.2.2.2.2.2.1, h.2.2.2.2.2.2.2.2.1, h.2.2.2.2.2.2.2.2.2.1, h.2.2.2.2.2.2.2.2.2.2.1, trivial⟩)
      ·
       replace hr15 := of_decide_eq_true hr15
       have hlfv : j < List.length (rlV g 3) := by show j < 2; omega
       obtain ⟨fv, hfv⟩ : ∃ e0, (rlV g 3)[j]? = some e0 := ⟨_, List.getElem?_eq_getElem hlfv⟩
       have hmfv : fv ∈ (rlV g 3) := List.mem_of_getElem? hfv
       refine run_cond_t rfl (run_skip (fin_next rfl (run_seq (run_block (run_seq (run_region (ops_val (yld_indexR Tryz.runUnderlying97 Tryz.sizeOf89 rfl rfl (fun v _ h => row_adr (n := 1) fvC_len (by decide) (by exact h.2.2.1) hfv) (by omega) (by omega)) rfl ?_)))))))
       refine ops_val (yld_loadR (ad := (some ⟨r3, 0, none⟩)) Tryz.isAgg89 rfl (fun v _ h => by exact h.2.2.1) (row_cells fvC_len hfv 0 _ rfl)) rfl ?_
       refine ops_val (yld_assign rfl) rfl (ops_nil (fin_next rfl (run_seq (run_region (ops_val (yld_move rfl) rfl (ops_val (yld_loadS 2 Tryz.isAgg41 Tryz.sizeOf41 rfl rfl rfl) rfl ?_))))))
       obtain ⟨nr, rfl, hT⟩ := rule3_c (EngB.mk g pb ab ub ob ib rb sb lad lcap (loopsOf (uniq [] p))) (EA m hm (EngB.mk g pb ab ub ob ib rb sb lad lcap (loopsOf (uniq [] p))) b2 b3 b4 kb fb) (EngA.mk adr (fun _ => (none, 0)) (fun _ => (none, 0)) (fun _ => (none, 0)) (fun _ => (none, 0)) (fun _ => (none, 0)) (fun _ => (none, 0))) (pmOf (uniq [] p)) (Ix.add x (decide (f ∈ fm)) f) f (rls (stpA m) idk (pmOf (uniq [] p)) (Ix.add x (decide (f ∈ fm)) f) f j (q, fm)).1 (rls (stpA m) idk (pmOf (uniq [] p)) (Ix.add x (decide (f ∈ fm)) f) f j (q, fm)).2 Hs hS2 Ha1 Hu1 Ho1 Hi1 Hr1 Hm1 hI1 hpl hxl1 hyl1 (fun hk => (form3 hform hk).2.2) (fun _ y hy => (hvk y (pm9.1 hy).1).num (.inr (pm9.1 hy).2.1)) hk j hfv
       refine ops_calld (first := [.pointer (some ⟨g, 0, none⟩)]) (vs := [Fc.val f]) (cap := []) hT rfl rfl (pf_six (pf_takeO (pf_cons (pf_cons (pf_cons pf_hereO))) (pf_takeO (pf_cons (pf_cons (pf_cons pf_hereO))) (pf_takeO (pf_cons (pf_cons (pf_cons pf_hereO))) (pf_takeO (pf_cons (pf_cons (pf_cons pf_hereO))) (pf_takeO (pf_cons (pf_cons (pf_cons pf_hereO))) (pf_takeO (pf_cons (pf_cons (pf_cons pf_hereO))) (pf_cons (pf_cons pf_lastB))))))))) (fun v _ h => by exact ⟨h.2.2.2.2.2.1, h.2.2.2.2.1, ⟨h.2.2.2.2.2.2.2.1, h.2.2.2.2.2.2.1, h.2.2.2.2.2.1⟩, trivial⟩) rfl fun ⟨Hs3, hS3⟩ => ?_
       refine ok_perm pf_sixR ?_
       refine ops_nil (fin_next rfl (ok_perm (pf_fB (pf_app (pf_app (pf_app (pf_app (pf_app (pf_app (pf_app pf_here))))))) (pf_fB (pf_app (pf_app (pf_app (pf_app (pf_app (pf_app (pf_app pf_here))))))) (pf_f1 (pf_app (pf_app (pf_app (pf_app (pf_app (pf_app pf_last))))))))) ?_))
       refine run_seq ?_
       refine run_draw' (by kernel_rfl) ?_
       refine any_sq 0 [0, 1, 2, 3, 4, 5, 6] (by kernel_rfl) (fun _ a b => ⟨a, b⟩) ?_
       refine sq_val rfl (yld_loadO Tryz.isAgg85 rfl (fun v _ h => by exact h.2.2.2.2.2.2.2.1) rfl) rfl ?_
       refine sq_val rfl (yld_nilck rfl) rfl ?_
       refine sq_val rfl (yld_field Tryz.runUnderlying94 rfl rfl rfl Tryz.sizeOf88) rfl ?_
       refine sq_val rfl (yld_loadO Tryz.isAgg88 rfl (fun v _ h => by exact h.2.2.2.2.2.1) rfl) rfl ?_
       refine sq_val rfl (yld_eq (yld_lenK (E := (EA m hm (EngB.mk g pb ab ub ob ib rb sb lad lcap (loopsOf (uniq [] p))) b2 b3 b4 kb fb)) (nw := (rls (stpA m) idk (pmOf (uniq [] p)) (Ix.add x (decide (f ∈ fm)) f) f (j + 1) (q, fm)).1) (Hs := Hs3) hS3 Tryz.runUnderlying88 rfl (pf_cons (pf_cons (pf_cons (pf_app (pf_app (pf_app (pf_app (pf_app pf_last))))))))) (show _ = Value.int .i64 (List.length (rls (stpA m) idk (pmOf (uniq [] p)) (Ix.add x (decide (f ∈ fm)) f) f (j + 1) (q, fm)).1 : Int) from rfl)) rfl ?_
       refine sq_val rfl (yld_loadO Tryz.isAgg3 rfl (fun v _ h => by exact h.2.2.2.2.2.2.1) rfl) rfl ?_
       refine sq_valB rfl (yld_gtr rfl rfl) rfl fun r16 hr16 => ?_
       refine sq_nil ?_
       refine any_done (by kernel_rfl) ?_
       refine fin_next rfl ?_
       cases r16
       ·
        replace hr16 := of_decide_eq_false hr16
        refine run_cond_f rfl (run_skip (fin_next rfl (run_region (ops_val (yld_arith rfl rfl rfl (wrap64 (by omega) (by omega))) rfl ?_))))
        refine ops_val (yld_move rfl) rfl (ops_nil (fin_inv rfl ?_))
        exact ok_again ⟨(j + 1, Hs3), hlfv, by exact hS3, .inr (by dsimp only; omega)⟩ (by dsimp only; omega) ⟨rfl, rfl, rfl, rfl, rfl, rfl, rfl, rfl, rfl, rfl, rfl, rfl, rfl, trivial⟩ (pf_takeB pf_here (pf_takeB pf_here (pf_takeB pf_here (pf_takeO pf_hereO (pf_takeO pf_hereO (pf_takeO pf_hereO (pf_takeO pf_hereO (pf_takeO pf_hereO (pf_takeO pf_hereO pf_end))))))))) (fun v _ h => by exact ⟨h.1, h.2.1, h.2.2.1, h.2.2.2.1, h.2.2.2.2.1, h.2.2.2.2.2.1, h.2.2.2.2.2.2.1, h.2.2.2.2.2.2.2.1, h.2.2.2.2.2.2.2.2.1, h.2.2.2.2.2.2.2.2.2.1, h.2.2.2.2.2.2.2.2.2.2.1, trivial⟩)
       ·
        replace hr16 := of_decide_eq_true hr16
        refine run_cond_t rfl (run_exit rfl (fin_next rfl (run_seq (run_seq ?_))))
        refine run_draw' (by kernel_rfl) ?_
        refine any_sq 0 [0, 1, 2, 3, 4, 5, 6] (by kernel_rfl) (fun _ a b => ⟨a, b⟩) ?_
        refine sq_val rfl (yld_loadO Tryz.isAgg85 rfl (fun v _ h => by exact h.2.2.2.2.2.2.2.1) rfl) rfl ?_
        refine sq_val rfl (yld_nilck rfl) rfl ?_
        refine sq_val rfl (yld_field Tryz.runUnderlying94 rfl rfl rfl Tryz.sizeOf88) rfl ?_
        refine sq_val rfl (yld_loadO Tryz.isAgg88 rfl (fun v _ h => by exact h.2.2.2.2.2.1) rfl) rfl ?_
        refine sq_val rfl (yld_eq (yld_lenK (E := (EA m hm (EngB.mk g pb ab ub ob ib rb sb lad lcap (loopsOf (uniq [] p))) b2 b3 b4 kb fb)) (nw := (rls (stpA m) idk (pmOf (uniq [] p)) (Ix.add x (decide (f ∈ fm)) f) f (j + 1) (q, fm)).1) (Hs := Hs3) hS3 Tryz.runUnderlying88 rfl (pf_cons (pf_cons (pf_cons (pf_app (pf_app (pf_app (pf_app (pf_app pf_last))))))))) (show _ = Value.int .i64 (List.length (rls (stpA m) idk (pmOf (uniq [] p)) (Ix.add x (decide (f ∈ fm)) f) f (j + 1) (q, fm)).1 : Int) from rfl)) rfl ?_
        refine sq_val rfl (yld_loadO Tryz.isAgg3 rfl (fun v _ h => by exact h.2.2.2.2.2.2.1) rfl) rfl ?_
        refine sq_valB rfl (yld_gtr rfl rfl) rfl fun r17 hr17 => ?_
        refine sq_nil ?_
        refine any_done (by kernel_rfl) ?_
        refine fin_next rfl ?_
        cases r17
        ·
         replace hr17 := of_decide_eq_false hr17
         omega
        ·
         replace hr17 := of_decide_eq_true hr17
         refine run_cond_t rfl (run_seq (run_seq (run_region (ops_val (yld_move rfl) rfl (ops_valB (yld_lss rfl rfl) rfl fun r18 hr18 => ?_)))))
         refine ops_nil (fin_next rfl ?_)
         cases r18
         ·
          replace hr18 := of_decide_eq_false hr18
          refine run_cond_f rfl (run_skip (fin_next rfl (run_seq (run_region (ops_val (yld_struct strt28 rfl rfl) rfl ?_)))))
          refine ops_store 0 Tryz.sizeOf28 rfl rfl rfl rfl rfl rfl ?_
          refine ops_val (yld_assign rfl) rfl (ops_nil (fin_next rfl (run_ret ?_)))
          exact retR ⟨((Cl.mk [] none 0 [] none 0), 2), allR_none hchk hb0 hb1 hm0' (by rw [if_neg (by assumption)]) (loopA_rule hvk hL hf (j + 1) rfl).1 (loopA_rule hvk hL hf (j + 1) rfl).2.2.1 (by omega)⟩ (fun aa v h1 h2 => res_ct (us := Cl.cells (Cl.mk [] none 0 [] none 0)) 0 Tryz.results18 Tryz.isAgg28 Tryz.sizeOf28 rfl rfl rfl rfl aa v h1 h2) pf_nil (fun v _ h => by exact ⟨.inl rfl, .inl rfl, trivial⟩)
         ·
          replace hr18 := of_decide_eq_true hr18
          refine run_cond_t rfl (run_seq (run_region (ops_val (yld_struct strt28 rfl rfl) rfl ?_)))
          refine ops_store 0 Tryz.sizeOf28 rfl rfl rfl rfl rfl rfl ?_
          refine ops_val (yld_assign rfl) rfl (ops_nil (fin_next rfl (run_ret ?_)))
          exact retR ⟨((Cl.mk [] none 0 [] none 0), 3), allR_none hchk hb0 hb1 hm0' (by rw [if_pos (by assumption)]) (loopA_rule hvk hL hf (j + 1) rfl).1 (loopA_rule hvk hL hf (j + 1) rfl).2.2.1 (by omega)⟩ (fun aa v h1 h2 => res_ct (us := Cl.cells (Cl.mk [] none 0 [] none 0)) 0 Tryz.results18 Tryz.isAgg28 Tryz.sizeOf28 rfl rfl rfl rfl aa v h1 h2) pf_nil (fun v _ h => by exact ⟨.inl rfl, .inl rfl, trivial⟩)
   ·
    replace hr3 := of_decide_eq_true hr3
    refine run_cond_t rfl (run_seq (run_region (ops_val (yld_struct strt28 rfl rfl) rfl ?_)))
    refine ops_store 0 Tryz.sizeOf28 rfl rfl rfl rfl rfl rfl ?_
    refine ops_val (yld_assign rfl) rfl (ops_nil (fin_next rfl (run_ret ?_)))
    exact retR ⟨((Cl.mk [] none 0 [] none 0), 1), allR_arg (by assumption) (by omega)⟩ (fun aa v h1 h2 => res_ct (us := Cl.cells (Cl.mk [] none 0 [] none 0)) 0 Tryz.results18 Tryz.isAgg28 Tryz.sizeOf28 rfl rfl rfl rfl aa v h1 h2) pf_nil (fun v _ h => by exact ⟨.inl rfl, .inl rfl, trivial⟩)
  ·
   replace hr2 := of_decide_eq_true hr2
   refine ops_no rfl rfl rfl rfl (ops_no rfl rfl rfl rfl (ops_val (yld_pick_t rfl rfl) rfl ?_))
   refine ops_nil (fin_next rfl (run_cond_t rfl (run_seq (run_region (ops_val (yld_struct strt28 rfl rfl) rfl ?_)))))
   refine ops_store 0 Tryz.sizeOf28 rfl rfl rfl rfl rfl rfl ?_
   refine ops_val (yld_assign rfl) rfl (ops_nil (fin_next rfl (run_ret ?_)))
   exact retR ⟨((Cl.mk [] none 0 [] none 0), 1), allR_arg (by assumption) (by omega)⟩ (fun aa v h1 h2 => res_ct (us := Cl.cells (Cl.mk [] none 0 [] none 0)) 0 Tryz.results18 Tryz.isAgg28 Tryz.sizeOf28 rfl rfl rfl rfl aa v h1 h2) pf_nil (fun v _ h => by exact ⟨.inl rfl, .inl rfl, trivial⟩)
 ·
  replace hr1 := ne_of_bne hr1
  refine run_cond_t rfl (run_seq (run_region (ops_val (yld_struct strt28 rfl rfl) rfl ?_)))
  refine ops_val (yld_move rfl) rfl (ops_store 0 Tryz.sizeOf28 rfl rfl rfl rfl rfl rfl ?_)
  refine ops_val (yld_assign rfl) rfl (ops_nil (fin_next rfl (run_ret ?_)))
  exact retR ⟨((Cl.mk [] none 0 [] none 0), (checkP p)), allR_chk (by assumption)⟩ (fun aa v h1 h2 => res_ct (us := Cl.cells (Cl.mk [] none 0 [] none 0)) 0 Tryz.results18 Tryz.isAgg28 Tryz.sizeOf28 rfl rfl rfl rfl aa v h1 h2) pf_nil (fun v _ h => by exact ⟨.inl rfl, .inl rfl, trivial⟩)
end Go.Proofs.YtpdbbglpbngeiaaGreatDoor
