/-
  Part of the proof of the law SaturateOrder over this seat: the small logic, the data, the contracts of functions (no condition).
-/
import Derived.Test.YtpdbbglpbngeiaaGreatDoorQSaturateOrder3
import Derived.Test.YtpdbbglpbngeiaaGreatDoorQSaturateOrder2
import Derived.Test.YtpdbbglpbngeiaaGreatDoorQSaturateOrder1
set_option linter.unusedVariables false
set_option linter.unusedSimpArgs false
set_option linter.unusedSectionVars false
namespace Go.Vs
open Go Go.Sx
def Ky.cells (k : Ky) : List Value := [.int .i64 k.kind, str k.role, str k.atom]
theorem Ky.cells_len (k : Ky) : k.cells.length = 3 := rfl
def Ky.val (k : Ky) : Value := .agg k.cells.toArray
def spotC (s : Spot) : List Value := [str s.1, str s.2]
def spotV (s : Spot) : Value := .agg (spotC s).toArray
def Ky.eqb (p q : Ky) : Bool := (p.kind == q.kind) && ((p.role == q.role) && ((p.atom == q.atom) && true))
theorem Ky.eqb_eq (p q : Ky) : p.eqb q = decide (p = q) := by
  rw [Bool.eq_iff_iff]; cases p; cases q; simp [Ky.eqb]
def spotB (p q : Spot) : Bool := (p.1 == q.1) && ((p.2 == q.2) && true)
theorem spotB_eq (p q : Spot) : spotB p q = decide (p = q) := by
  rw [Bool.eq_iff_iff]; cases p; cases q; simp [spotB]
theorem Fc.cells_one (p : Fc) : p.cells.all Value.oneCell' = true := rfl
end Go.Vs
namespace Go.Sx
open Go Go.Vs
set_option linter.unusedSectionVars false
set_option linter.unusedVariables false
/-- how an engine emits: nw is what was emitted, fm what is firm -/
structure Emt (P : Program) (tF : TypeId) where
  stp : Fc → List Fc → List Fc
  kof : List Fc → List Fc
  St : List Fc → List Fc → Hp → Prop
  fn : FuncId
  caps : List Value
  ef : Fct
  kb : Nat
  fb : Nat
  grows : Grows stp kof
  emit : ∀ f nw fm H, St nw fm H → Tri P fn (f.val :: caps).toArray H [ef] (fun _ : {H' : Hp // St (stp f nw) fm H'} => .tuple #[]) (fun y => y.1) (fun _ => [])
  known : ∀ {nw fm H}, St nw fm H → ∃ es c, (kb, Obj.map es c) ∈ H ∧ SetE Fc.val es (kof nw)
  firm : ∀ {nw fm H}, St nw fm H → ∃ es c q, (fb, Obj.map es c) ∈ H ∧ SetE Fc.val es q ∧ ∀ f, f ∈ q ↔ f ∈ fm
  setf : ∀ {nw fm H} (f : Fc), St nw fm H → ∃ es c q Hr, H.Perm ((fb, Obj.map es c) :: Hr) ∧ SetE Fc.val es q ∧ (∀ f, f ∈ q ↔ f ∈ fm) ∧ ∀ es' c', SetE Fc.val es' (if f ∈ q then q else q ++ [f]) → ∃ H', St nw (f :: fm) H' ∧ H'.Perm ((fb, Obj.map es' c') :: Hr)
section
variable {P : Program} {N : Nat} {v0 : Vw} {H0 : Hp} {R : Exit → Act → World → Prop} {K : List Kt} {fr : Fr} {H : Hp} {Γ : List Fct}
variable {ops : Array Oper} {l : List Oper} {d : Nat} {ty : TypeId} {ps : String} {af : Array Edge} {tF : TypeId} {E : Emt P tF} {nw fm : List Fc} {Hs F : Hp}
theorem perm_obj {b : Nat} {o : Obj} {v : Vw} (hp : H.Perm (Hs ++ F)) (hm : (b, o) ∈ Hs) (h : v.sat H) : v.w.heap[b]? = some o := (h.own _ (hp.mem_iff.2 (List.mem_append_left _ hm))).1
theorem yld_known {t et : TypeId} {x y : Operand} {f : Fc} (hS : E.St nw fm Hs) (hK : KeyT P tF Fc.val) (hu : ∀ w, (underlying t).run P w = .ok (.map tF et) w) (hz : ∀ w, (zeroValue et).run P w = .ok (.bool false) w) (hx : Fr.ev fr x = some (.map (some E.kb))) (hy : Fr.ev fr y = some f.val) (hp : H.Perm (Hs ++ F)) :
    Yld P N fr H Γ (.lookup t x y false) ty (.bool (decide (f ∈ E.kof nw))) := by
  obtain ⟨es, c, g1, g2⟩ := E.known hS
  exact yld_lookSet hK hu hz hx hy g2 fun v h _ => perm_obj hp g1 h
theorem yld_firm {t et : TypeId} {x y : Operand} {f : Fc} (hS : E.St nw fm Hs) (hK : KeyT P tF Fc.val) (hu : ∀ w, (underlying t).run P w = .ok (.map tF et) w) (hz : ∀ w, (zeroValue et).run P w = .ok (.bool false) w) (hx : Fr.ev fr x = some (.map (some E.fb))) (hy : Fr.ev fr y = some f.val) (hp : H.Perm (Hs ++ F)) :
    Yld P N fr H Γ (.lookup t x y false) ty (.bool (decide (f ∈ fm))) := by
  obtain ⟨es, c, q, g1, g2, g3⟩ := E.firm hS
  have := yld_lookSet (P := P) (N := N) (H := H) (Γ := Γ) (ty := ty) hK hu hz hx hy g2 fun v h _ => perm_obj hp g1 h
  have e : decide (f ∈ q) = decide (f ∈ fm) := by rw [decide_eq_decide]; exact g3 f
  rw [← e]; exact this
theorem ops_setf {o : Op} {t et : TypeId} {x y z : Operand} {f : Fc} (hS : E.St nw fm Hs) (hK : KeyT P tF Fc.val) (ho : o = .insert t x y z ∨ o = .mapUpdate t x y z) (hu : ∀ w, (underlying t).run P w = .ok (.map tF et) w)
    (hx : Fr.ev fr x = some (.map (some E.fb))) (hy : Fr.ev fr y = some f.val) (hz : Fr.ev fr z = some (.bool true)) (hp : H.Perm (Hs ++ F))
    (hk : ∀ Hs', E.St nw (f :: fm) Hs' → Ops P R N v0 H0 ops l K fr (Hs' ++ F) Γ) : Ops P R N v0 H0 ops (⟨none, o, ty, ps, af, none⟩ :: l) K fr H Γ := by
  obtain ⟨es, c, q, Hr, p1, p2, p3, p4⟩ := E.setf f hS
  refine ok_perm (H' := (E.fb, .map es c) :: (Hr ++ F)) (hp.trans (by have := p1.append_right F; simpa using this)) ?_
  refine ops_join 0 hK ho hu hx hy hz rfl p2 fun es' c' hs' => ?_
  obtain ⟨H', q1, q2⟩ := p4 es' c' hs'
  simp only [List.set_cons_zero]
  exact ok_perm (by have := (q2.append_right F).symm; simpa using this) (hk H' q1)
end
/-- the blocks of an engine -/
structure EngB where
  g : Nat
  pb : Nat
  ab : Nat
  ub : Nat
  ob : Nat
  ib : Nat
  rb : Nat
  sb : Nat
  lad : Option Addr
  lcap : Nat
  lps : List Str
/-- where its rows lie -/
structure EngA where
  p : Ky → Option Addr × Nat
  a : Str → Option Addr × Nat
  u : Str → Option Addr × Nat
  o : Spot → Option Addr × Nat
  i : Spot → Option Addr × Nat
  r : Spot → Option Addr × Nat
  s : Spot → Option Addr × Nat
def EngB.cells (B : EngB) {P : Program} {tF : TypeId} (E : Emt P tF) : List Value :=
  [.map (some B.pb), .slice B.lad B.lps.length B.lcap, .map (some E.kb), .func (.func E.fn) #[] E.caps.toArray, .map (some B.ab), .map (some B.ub), .map (some B.ob), .map (some B.ib), .map (some B.rb), .map (some B.sb), .map (some E.fb)]
/-- the blocks of an index -/
structure IxH where
  a : Hp
  u : Hp
  o : Hp
  i : Hp
  r : Hp
  s : Hp
def IxO (tS tF : TypeId) (B : EngB) (x : Ix) (y : IxH) : Prop :=
  MLog str strC tS 1 x.above B.ab y.a ∧ MLog str strC tS 1 x.under B.ub y.u ∧ MLog spotV strC tS 1 x.frm B.ob y.o ∧ MLog spotV strC tS 1 x.into B.ib y.i ∧ MLog spotV Fc.cells tF 6 x.ranges B.rb y.r ∧ MLog spotV Fc.cells tF 6 x.firms B.sb y.s
end Go.Sx
namespace Go.Proofs.YtpdbbglpbngeiaaGreatDoor
open Go Go.Sx Go.Proofs
set_option linter.unusedVariables false
attribute [local irreducible] Code.wp wpList wpAnyH
open Go.Vs
theorem eqKy (p q : Ky) (w : World) : (Op.equalIn 10000 171 (Ky.val p) (Ky.val q)).run Tryz.prog w = .ok (decide (p = q)) w := by
  have h := run_equalIn_struct (P := Tryz.prog) w 9999 171 (Ky.cells p).toArray (Ky.cells q).toArray (by simp only [Program.fieldsOf, Tryz.underlying171]) Tryz.stoodInHeld171
  refine h.trans ?_
  rw [← Ky.eqb_eq]
  simp only [Program.fieldsOf, Tryz.underlying171]
  exact eqF_cons rfl Tryz.isAgg3 rfl rfl (eqI Tryz.underlying3 w) (eqF_cons rfl Tryz.isAgg9 rfl rfl (eqS Tryz.underlying9 w) (eqF_cons rfl Tryz.isAgg9 rfl rfl (eqS Tryz.underlying9 w) (eqF_nil w)))
theorem eqSpot (p q : Spot) (w : World) : (Op.equalIn 10000 145 (spotV p) (spotV q)).run Tryz.prog w = .ok (decide (p = q)) w := by
  have h := run_equalIn_struct (P := Tryz.prog) w 9999 145 (spotC p).toArray (spotC q).toArray (by simp only [Program.fieldsOf, Tryz.underlying145]) Tryz.stoodInHeld145
  refine h.trans ?_
  rw [← spotB_eq]
  simp only [Program.fieldsOf, Tryz.underlying145]
  exact eqF_cons rfl Tryz.isAgg9 rfl rfl (eqS Tryz.underlying9 w) (eqF_cons rfl Tryz.isAgg9 rfl rfl (eqS Tryz.underlying9 w) (eqF_nil w))
theorem okKy (p : Ky) : KeyOk Tryz.prog 171 (Ky.val p) := fun e w => by
  have hi : ∀ (n : Int) (w : World), (Instr.checkKey e (9998 + 1) 3 (.int .i64 n)).run Tryz.prog w = .ok () w := fun n w => MapKept.run_checkKey (d := .int .i64) Tryz.underlying3 (by simp [MapKept.IsKey]) e 9998
  have hs : ∀ (n : Str) (w : World), (Instr.checkKey e (9998 + 1) 9 (str n)).run Tryz.prog w = .ok () w := fun n w => MapKept.run_checkKey (d := .string) Tryz.underlying9 (by simp [MapKept.IsKey, str]) e 9998
  refine ckF (n := 9999) Tryz.underlying171 fun f hf => ?_
  simp only [List.mem_cons, List.not_mem_nil, or_false] at hf
  rcases hf with rfl | rfl | rfl
  · exact ⟨rfl, Tryz.isAgg3, _, rfl, hi _⟩
  · exact ⟨rfl, Tryz.isAgg9, _, rfl, hs _⟩
  · exact ⟨rfl, Tryz.isAgg9, _, rfl, hs _⟩
theorem okSpot (p : Spot) : KeyOk Tryz.prog 145 (spotV p) := fun e w => by
  have hi : ∀ (n : Int) (w : World), (Instr.checkKey e (9998 + 1) 3 (.int .i64 n)).run Tryz.prog w = .ok () w := fun n w => MapKept.run_checkKey (d := .int .i64) Tryz.underlying3 (by simp [MapKept.IsKey]) e 9998
  have hs : ∀ (n : Str) (w : World), (Instr.checkKey e (9998 + 1) 9 (str n)).run Tryz.prog w = .ok () w := fun n w => MapKept.run_checkKey (d := .string) Tryz.underlying9 (by simp [MapKept.IsKey, str]) e 9998
  refine ckF (n := 9999) Tryz.underlying145 fun f hf => ?_
  simp only [List.mem_cons, List.not_mem_nil, or_false] at hf
  rcases hf with rfl | rfl
  · exact ⟨rfl, Tryz.isAgg9, _, rfl, hs _⟩
  · exact ⟨rfl, Tryz.isAgg9, _, rfl, hs _⟩
theorem okFc (p : Fc) : KeyOk Tryz.prog 41 (Fc.val p) := fun e w => by
  have hi : ∀ (n : Int) (w : World), (Instr.checkKey e (9998 + 1) 3 (.int .i64 n)).run Tryz.prog w = .ok () w := fun n w => MapKept.run_checkKey (d := .int .i64) Tryz.underlying3 (by simp [MapKept.IsKey]) e 9998
  have hs : ∀ (n : Str) (w : World), (Instr.checkKey e (9998 + 1) 9 (str n)).run Tryz.prog w = .ok () w := fun n w => MapKept.run_checkKey (d := .string) Tryz.underlying9 (by simp [MapKept.IsKey, str]) e 9998
  refine ckF (n := 9999) Tryz.underlying41 fun f hf => ?_
  simp only [List.mem_cons, List.not_mem_nil, or_false] at hf
  rcases hf with rfl | rfl | rfl | rfl | rfl | rfl
  · exact ⟨rfl, Tryz.isAgg3, _, rfl, hi _⟩
  · exact ⟨rfl, Tryz.isAgg9, _, rfl, hs _⟩
  · exact ⟨rfl, Tryz.isAgg9, _, rfl, hs _⟩
  · exact ⟨rfl, Tryz.isAgg9, _, rfl, hs _⟩
  · exact ⟨rfl, Tryz.isAgg3, _, rfl, hi _⟩
  · exact ⟨rfl, Tryz.isAgg3, _, rfl, hi _⟩
theorem keyKy : KeyT Tryz.prog 171 Ky.val := keyT_struct (K := Ky) Tryz.underlying171 okKy (fun p q w => eqKy p q w) fun k => same_agg (l := Ky.cells k) fun v hv => by
  simp only [Ky.cells, List.mem_cons, List.not_mem_nil, or_false] at hv
  rcases hv with rfl | rfl | rfl
  · exact same_int _ _
  · exact same_str _ _
  · exact same_str _ _
theorem keySpot : KeyT Tryz.prog 145 spotV := keyT_struct (K := Spot) Tryz.underlying145 okSpot (fun p q w => eqSpot p q w) fun k => same_agg (l := spotC k) fun v hv => by
  simp only [spotC, List.mem_cons, List.not_mem_nil, or_false] at hv
  rcases hv with rfl | rfl
  · exact same_str _ _
  · exact same_str _ _
theorem keyFc : KeyT Tryz.prog 41 Fc.val := keyT_struct (K := Fc) Tryz.underlying41 okFc (fun p q w => eqFc p q w) fun k => same_agg (l := Fc.cells k) fun v hv => by
  simp only [Fc.cells, List.mem_cons, List.not_mem_nil, or_false] at hv
  rcases hv with rfl | rfl | rfl | rfl | rfl | rfl
  · exact same_int _ _
  · exact same_str _ _
  · exact same_str _ _
  · exact same_str _ _
  · exact same_int _ _
  · exact same_int _ _
theorem keyPcT : KeyT Tryz.prog 47 Pc.val := keyT_struct (K := Pc) Tryz.underlying47 keyPc (fun p q w => eqPc p q w) fun k => same_agg (l := Pc.cells k) fun v hv => by
  simp only [Pc.cells, List.mem_cons, List.not_mem_nil, or_false] at hv
  rcases hv with rfl | rfl | rfl | rfl | rfl | rfl | rfl | rfl | rfl | rfl
  · exact same_int _ _
  · exact same_str _ _
  · exact same_str _ _
  · exact same_str _ _
  · exact same_str _ _
  · exact same_str _ _
  · exact same_str _ _
  · exact same_int _ _
  · exact same_int _ _
  · exact same_int _ _
theorem keyS : KeyT Tryz.prog 9 str := keyT_str Tryz.underlying9
theorem elt_fc : Elt Tryz.prog 26 41 6 72 := eltOf Tryz.underlying26 (z := .agg #[.int .i64 0, str [], str [], str [], .int .i64 0, .int .i64 0]) (by kernel_rfl) rfl (by decide)
theorem elt_pc : Elt Tryz.prog 22 47 10 128 := eltOf Tryz.underlying22 (z := .agg #[.int .i64 0, str [], str [], str [], str [], str [], str [], .int .i64 0, .int .i64 0, .int .i64 0]) (by kernel_rfl) rfl (by decide)
theorem elt_str : Elt Tryz.prog 25 9 1 16 := eltOf Tryz.underlying25 (z := .string ⟨#[]⟩) (by kernel_rfl) rfl (by decide)
theorem strt171 : Strt Tryz.prog 171 [(0, 1), (1, 1), (2, 1)] [.int .i64 0, str [], str []] := ⟨_, Tryz.zeroValue171, Tryz.runUnderlying171, fun w => by simp [Tryz.sizeOf3, Tryz.sizeOf9]⟩
theorem strt145 : Strt Tryz.prog 145 [(0, 1), (1, 1)] [str [], str []] := ⟨_, Tryz.zeroValue145, Tryz.runUnderlying145, fun w => by simp [Tryz.sizeOf9]⟩
theorem strt94 : Strt Tryz.prog 94 [(0, 1), (1, 1), (2, 1), (3, 1), (4, 1), (5, 1), (6, 1), (7, 1), (8, 1), (9, 1), (10, 1)] [.map none, .slice none 0 0, .map none, .nilFunc, .map none, .map none, .map none, .map none, .map none, .map none, .map none] := ⟨_, Tryz.zeroValue94, Tryz.runUnderlying94, fun w => by simp [Tryz.sizeOf25, Tryz.sizeOf87, Tryz.sizeOf88, Tryz.sizeOf89, Tryz.sizeOf90, Tryz.sizeOf91, Tryz.sizeOf92]⟩
theorem strC_one (s : Str) : (strC s).all Value.oneCell' = true := rfl
/-- the engine's block, lasting -/
def gF (B : EngB) (E : Emt Tryz.prog 41) : Fct := objF B.g (.cells (B.cells E).toArray 94 (0, 0))
def pF (B : EngB) (pm : List (Ky × Pc)) (A : EngA) : Fct := mlF Tryz.prog 171 Ky.val Pc.cells B.pb pm A.p
def aF (B : EngB) (x : Ix) (A : EngA) : Fct := mlF Tryz.prog 9 str strC B.ab x.above A.a
def uF (B : EngB) (x : Ix) (A : EngA) : Fct := mlF Tryz.prog 9 str strC B.ub x.under A.u
def oF (B : EngB) (x : Ix) (A : EngA) : Fct := mlF Tryz.prog 145 spotV strC B.ob x.frm A.o
def iF (B : EngB) (x : Ix) (A : EngA) : Fct := mlF Tryz.prog 145 spotV strC B.ib x.into A.i
def rF (B : EngB) (x : Ix) (A : EngA) : Fct := mlF Tryz.prog 145 spotV Fc.cells B.rb x.ranges A.r
def sF (B : EngB) (x : Ix) (A : EngA) : Fct := mlF Tryz.prog 145 spotV Fc.cells B.sb x.firms A.s
end Go.Proofs.YtpdbbglpbngeiaaGreatDoor
namespace Go.Proofs.YtpdbbglpbngeiaaGreatDoor
open Go Go.Sx Go.Proofs
set_option linter.unusedVariables false
attribute [local irreducible] Code.wp wpList wpAnyH
open Go.Vs
theorem map_step {α β : Type} {g : α → β} {l : List α} {i : Nat} {x : α} (h : l[i]? = some x) : List.map g (List.take (i + 1) l) = List.map g (List.take i l) ++ [g x] := by
  rw [List.take_add_one, h, Option.toList_some, List.map_append]; rfl
theorem sub_c (a b : Str) : Fn0 Tryz.prog 89 #[str a, str b] (Fc.val (fsub a b)) := by
  refine tri_of_body Tryz.func89 rfl rfl Tryz.ntmps89 rfl fun v0 => ?_
  refine run_seq (run_region (ops_alloc Tryz.zeroValue41 rfl fun b1 => ?_))
  refine ops_nil (fin_next rfl (run_seq (run_region (ops_val (yld_move rfl) rfl (ops_val (yld_move rfl) rfl (ops_val (yld_struct strt41 rfl rfl) rfl ?_))))))
  refine ops_store 0 Tryz.sizeOf41 rfl rfl rfl rfl rfl rfl ?_
  refine ops_nil (fin_next rfl (run_ret ?_))
  exact retR () (fun aa v h1 h2 => res_cellS (us := Fc.cells (fsub a b)) 0 Tryz.results89 Tryz.isAgg41 Tryz.sizeOf41 rfl rfl rfl aa v h1 h2) pf_nil (fun _ _ _ => trivial)
theorem link_c (a r b : Str) : Fn0 Tryz.prog 99 #[str a, str r, str b] (Fc.val (flink a r b)) := by
  refine tri_of_body Tryz.func99 rfl rfl Tryz.ntmps99 rfl fun v0 => ?_
  refine run_seq (run_region (ops_alloc Tryz.zeroValue41 rfl fun b1 => ?_))
  refine ops_nil (fin_next rfl (run_seq (run_region (ops_val (yld_move rfl) rfl (ops_val (yld_move rfl) rfl (ops_val (yld_move rfl) rfl (ops_val (yld_struct strt41 rfl rfl) rfl ?_)))))))
  refine ops_store 0 Tryz.sizeOf41 rfl rfl rfl rfl rfl rfl ?_
  refine ops_nil (fin_next rfl (run_ret ?_))
  exact retR () (fun aa v h1 h2 => res_cellS (us := Fc.cells (flink a r b)) 0 Tryz.results99 Tryz.isAgg41 Tryz.sizeOf41 rfl rfl rfl aa v h1 h2) pf_nil (fun _ _ _ => trivial)
theorem span_c (a r : Str) (lo hi : Int) : Fn0 Tryz.prog 90 #[str a, str r, .int .i64 lo, .int .i64 hi] (Fc.val (fspan a r lo hi)) := by
  refine tri_of_body Tryz.func90 rfl rfl Tryz.ntmps90 rfl fun v0 => ?_
  refine run_seq (run_region (ops_alloc Tryz.zeroValue41 rfl fun b1 => ?_))
  refine ops_nil (fin_next rfl (run_seq (run_region (ops_val (yld_move rfl) rfl (ops_val (yld_move rfl) rfl (ops_val (yld_move rfl) rfl (ops_val (yld_move rfl) rfl ?_)))))))
  refine ops_val (yld_struct strt41 rfl rfl) rfl ?_
  refine ops_store 0 Tryz.sizeOf41 rfl rfl rfl rfl rfl rfl ?_
  refine ops_nil (fin_next rfl (run_ret ?_))
  exact retR () (fun aa v h1 h2 => res_cellS (us := Fc.cells (fspan a r lo hi)) 0 Tryz.results90 Tryz.isAgg41 Tryz.sizeOf41 rfl rfl rfl aa v h1 h2) pf_nil (fun _ _ _ => trivial)
theorem contain_c (B : EngB) (E : Emt Tryz.prog 41) (A : EngA) (pm : List (Ky × Pc)) (x : Ix) (f : Fc) (nw fm : List Fc) (Hs : Hp) (hS : E.St nw fm Hs) (hpl : ∀ k, (lat pm k).length ≤ 1000000000) (hxl : ∀ k, (lat x.above k).length ≤ 1000000000 ∧ (lat x.under k).length ≤ 1000000000) (hyl : ∀ k, (lat x.frm k).length ≤ 1000000000 ∧ (lat x.into k).length ≤ 1000000000 ∧ (lat x.ranges k).length ≤ 1000000000 ∧ (lat x.firms k).length ≤ 1000000000) : Tri Tryz.prog 100 #[.pointer (some ⟨B.g, 0, none⟩), Fc.val f] Hs [gF B E, pF B pm A, aF B x A, uF B x A, oF B x A, iF B x A, rF B x A, sF B x A, E.ef] (fun _ : {H' : Hp // E.St (emits E.stp (containL pm f) nw) fm H'} => .tuple #[]) (fun y => y.1) (fun _ => []) := by
 refine tri_of_body Tryz.func100 rfl rfl Tryz.ntmps100 rfl fun v0 => ?_
 refine run_seq (run_region (ops_box rfl rfl fun b1 => ?_))
 refine ops_nil (fin_next rfl (run_seq ?_))
 refine run_draw' (by kernel_rfl) ?_
 refine any_sq 0 [0, 1, 2, 3, 4, 5, 6, 7, 8, 9] (by kernel_rfl) (fun _ a b => ⟨a, b⟩) ?_
 refine sq_val rfl (yld_move rfl) rfl ?_
 refine sq_val rfl (yld_nilck rfl) rfl ?_
 refine sq_val rfl (yld_field Tryz.runUnderlying94 rfl rfl rfl Tryz.sizeOf87) rfl ?_
 refine sq_val rfl (yld_loadO Tryz.isAgg87 rfl (fun v _ h => by exact h.1) rfl) rfl ?_
 refine sq_val rfl (yld_field Tryz.runUnderlying41 rfl rfl rfl Tryz.sizeOf9) rfl ?_
 refine sq_val rfl (yld_load 0 Tryz.isAgg9 rfl rfl rfl) rfl ?_
 refine sq_val rfl (yld_struct strt171 rfl rfl) rfl ?_
 refine sq_val rfl (yld_lookF (k := (Ky.mk 1 [] (Fc.b f))) (adr := A.p) keyKy Tryz.runUnderlying87 Tryz.zeroValue22 rfl rfl (fun v _ h => by exact h.2.1)) rfl ?_
 refine sq_val rfl (yld_lenS Tryz.runUnderlying22 rfl) rfl ?_
 refine sq_val rfl (yld_move rfl) rfl ?_
 refine sq_nil ?_
 refine any_done (by kernel_rfl) ?_
 refine fin_next rfl (run_block (ok_fr [(0, .pointer (some ⟨B.g, 0, none⟩)), (3, .pointer (some ⟨b1, 0, none⟩)), (13, .slice (Prod.fst (A.p (Ky.mk 1 [] (Fc.b f)))) (List.length (lat pm (Ky.mk 1 [] (Fc.b f)))) (Prod.snd (A.p (Ky.mk 1 [] (Fc.b f))))), (14, .int .i64 (List.length (lat pm (Ky.mk 1 [] (Fc.b f))) : Int)), (15, .int .i64 ((0 : Nat) : Int))] ⟨rfl, rfl, rfl, rfl, rfl, trivial⟩ ?_))
 refine ok_weak (H' := ((b1, .cells #[.int .i64 (Fc.kind f), str (Fc.a f), str (Fc.b f), str (Fc.r f), .int .i64 (Fc.lo f), .int .i64 (Fc.hi f)] 41 (0, 0)) :: Hs)) (Γ' := [gF B E, pF B pm A, aF B x A, uF B x A, oF B x A, iF B x A, rF B x A, sF B x A, E.ef]) (pf_takeB pf_here pf_end) (fun v _ h => by exact ⟨h.1, h.2.1, h.2.2.1, h.2.2.2.1, h.2.2.2.2.1, h.2.2.2.2.2.1, h.2.2.2.2.2.2.1, h.2.2.2.2.2.2.2.1, h.2.2.2.2.2.2.2.2.1, trivial⟩) ?_
 refine run_loop (ι := {y : Nat × Hp // y.1 ≤ List.length (lat pm (Ky.mk 1 [] (Fc.b f))) ∧ E.St (emits E.stp (List.map (fun y => fsub (Fc.a f) (Pc.c y)) (List.take y.1 (lat pm (Ky.mk 1 [] (Fc.b f))))) nw) fm y.2}) (fun y => [(0, .pointer (some ⟨B.g, 0, none⟩)), (3, .pointer (some ⟨b1, 0, none⟩)), (13, .slice (Prod.fst (A.p (Ky.mk 1 [] (Fc.b f)))) (List.length (lat pm (Ky.mk 1 [] (Fc.b f)))) (Prod.snd (A.p (Ky.mk 1 [] (Fc.b f))))), (14, .int .i64 (List.length (lat pm (Ky.mk 1 [] (Fc.b f))) : Int)), (15, .int .i64 (y.1.1 : Int))]) (fun y => ((b1, .cells #[.int .i64 (Fc.kind f), str (Fc.a f), str (Fc.b f), str (Fc.r f), .int .i64 (Fc.lo f), .int .i64 (Fc.hi f)] 41 (0, 0)) :: y.1.2)) (fun y => [gF B E, pF B pm A, aF B x A, uF B x A, oF B x A, iF B x A, rF B x A, sF B x A, E.ef]) (fun y => List.length (lat pm (Ky.mk 1 [] (Fc.b f))) - y.1.1) ⟨((0 : Nat), Hs), by simp, by exact hS⟩ ?_
 rintro ⟨⟨i, Hs_i⟩, hi_i, hS_i⟩
 dsimp only at hi_i hS_i ⊢
 refine ok_fr [(0, .pointer (some ⟨B.g, 0, none⟩)), (3, .pointer (some ⟨b1, 0, none⟩)), (13, .slice (Prod.fst (A.p (Ky.mk 1 [] (Fc.b f)))) (List.length (lat pm (Ky.mk 1 [] (Fc.b f)))) (Prod.snd (A.p (Ky.mk 1 [] (Fc.b f))))), (14, .int .i64 (List.length (lat pm (Ky.mk 1 [] (Fc.b f))) : Int)), (15, .int .i64 (i : Int))] ⟨rfl, rfl, rfl, rfl, rfl, trivial⟩ ?_
 have hb_i := hpl (Ky.mk 1 [] (Fc.b f))
 refine run_seq (run_region (ops_valB (yld_lss rfl rfl) rfl fun r1 hr1 => ?_))
 refine ops_nil (fin_next rfl (run_seq ?_))
 cases r1
 ·
  replace hr1 := of_decide_eq_false hr1
  refine run_cond_f rfl (run_exit rfl (fin_end rfl ?_))
  exact end0 Tryz.results100 ⟨Hs_i, by unfold containL; rw [List.take_of_length_le (by omega)] at hS_i; exact hS_i⟩ rfl pf_lastB (fun _ _ _ => trivial)
 ·
  replace hr1 := of_decide_eq_true hr1
  have hlx1 : i < List.length (lat pm (Ky.mk 1 [] (Fc.b f))) := by omega
  obtain ⟨x1, hx1⟩ : ∃ e0, (lat pm (Ky.mk 1 [] (Fc.b f)))[i]? = some e0 := ⟨_, List.getElem?_eq_getElem hlx1⟩
  have hmx1 : x1 ∈ (lat pm (Ky.mk 1 [] (Fc.b f))) := List.mem_of_getElem? hx1
  refine run_cond_t rfl (run_skip (fin_next rfl (run_seq (run_block (run_seq (run_region (ops_val (yld_indexR Tryz.runUnderlying22 Tryz.sizeOf47 rfl rfl (fun v _ h => row_adr (n := 10) Pc.cells_len (by decide) (by exact (mlF_row h.2.1 (Ky.mk 1 [] (Fc.b f)))) hx1) (by omega) (by first | omega | (simp; done))) rfl ?_)))))))
  refine ops_val (yld_loadRS (ad := (Prod.fst (A.p (Ky.mk 1 [] (Fc.b f))))) (us := Pc.cells x1) Tryz.isAgg47 Tryz.sizeOf47 rfl (fun v _ h => by exact (mlF_row h.2.1 (Ky.mk 1 [] (Fc.b f)))) (Pc.cells_len _) (row_cells Pc.cells_len hx1)) rfl ?_
  refine ops_alloc Tryz.zeroValue47 rfl fun b2 => ?_
  refine ops_store 0 Tryz.sizeOf47 rfl rfl rfl rfl rfl rfl ?_
  refine ops_nil (fin_next rfl ?_)
  refine run_drawH ((b2, .cells #[.int .i64 (Pc.kind x1), str (Pc.a x1), str (Pc.b x1), str (Pc.c x1), str (Pc.r x1), str (Pc.s x1), str (Pc.t x1), .int .i64 (Pc.lo x1), .int .i64 (Pc.hi x1), .int .i64 (Pc.frm x1)] 47 (0, 0)) :: ((b1, .cells #[.int .i64 (Fc.kind f), str (Fc.a f), str (Fc.b f), str (Fc.r f), .int .i64 (Fc.lo f), .int .i64 (Fc.hi f)] 41 (0, 0)) :: [])) (by kernel_rfl) ?_
  refine any_sq 2 [0, 1, 2, 3, 4, 5, 6, 7] (by kernel_rfl) (fun _ a b => ⟨Vw.sat.sub (a.perm (pf_takeB pf_here pf_here)), b⟩) ?_
  refine sq_val rfl (yld_move rfl) rfl ?_
  refine sq_val rfl (yld_nilck rfl) rfl ?_
  refine sq_val rfl (yld_field Tryz.runUnderlying94 rfl rfl rfl Tryz.sizeOf89) rfl ?_
  refine sq_val rfl (yld_loadO Tryz.isAgg89 rfl (fun v _ h => by exact h.1) rfl) rfl ?_
  refine sq_val rfl (yld_field Tryz.runUnderlying41 rfl rfl rfl Tryz.sizeOf9) rfl ?_
  refine sq_val rfl (yld_load 1 Tryz.isAgg9 rfl rfl rfl) rfl ?_
  refine sq_val rfl (yld_field Tryz.runUnderlying47 rfl rfl rfl Tryz.sizeOf9) rfl ?_
  refine sq_val rfl (yld_load 0 Tryz.isAgg9 rfl rfl rfl) rfl ?_
  refine sq_nil ?_
  refine any_one 8 rfl (by kernel_rfl) ?_
  refine ops_call (sub_c (Fc.a f) (Pc.c x1)) rfl pf_nil (fun _ _ _ => by exact trivial) rfl fun _ => ?_
  refine ops_nil (fin_inv rfl (any_next (fun _ a b => ⟨Vw.sat.sub (a.perm (pf_takeB pf_here pf_here)), b⟩) ?_))
  refine any_one 9 rfl (by kernel_rfl) ?_
  refine ops_calld (first := []) (cap := E.caps) (E.emit (fsub (Fc.a f) (Pc.c x1)) (emits E.stp (List.map (fun y => fsub (Fc.a f) (Pc.c y)) (List.take i (lat pm (Ky.mk 1 [] (Fc.b f))))) nw) fm Hs_i hS_i) rfl rfl (pf_cons pf_lastB) (fun v _ h => by exact ⟨h.2.2.2.2.2.2.2.2.1, trivial⟩) rfl fun ⟨Hs1, hS1⟩ => ?_
  dsimp only
  refine ops_nil (fin_inv rfl (any_next (fun _ a b => ⟨Vw.sat.sub (a.perm (pf_takeB (pf_app pf_here) pf_last)), b⟩) ?_))
  refine any_done (by kernel_rfl) ?_
  refine fin_next rfl (run_region (ops_val (yld_arith rfl rfl rfl (wrap64 (by omega) (by omega))) rfl ?_))
  refine ops_val (yld_move rfl) rfl (ops_nil (fin_inv rfl ?_))
  exact ok_again ⟨(i + 1, Hs1), hlx1, (by rw [map_step hx1, emits_append]; exact hS1)⟩ (by dsimp only; omega) ⟨rfl, rfl, rfl, rfl, rfl, trivial⟩ (pf_takeB (pf_app (pf_cons pf_here)) pf_hereO) (fun v _ h => by exact ⟨h.1, h.2.1, h.2.2.1, h.2.2.2.1, h.2.2.2.2.1, h.2.2.2.2.2.1, h.2.2.2.2.2.2.1, h.2.2.2.2.2.2.2.1, h.2.2.2.2.2.2.2.2.1, trivial⟩)
theorem some_c (B : EngB) (E : Emt Tryz.prog 41) (A : EngA) (pm : List (Ky × Pc)) (x : Ix) (f : Fc) (nw fm : List Fc) (Hs : Hp) (hS : E.St nw fm Hs) (hpl : ∀ k, (lat pm k).length ≤ 1000000000) (hxl : ∀ k, (lat x.above k).length ≤ 1000000000 ∧ (lat x.under k).length ≤ 1000000000) (hyl : ∀ k, (lat x.frm k).length ≤ 1000000000 ∧ (lat x.into k).length ≤ 1000000000 ∧ (lat x.ranges k).length ≤ 1000000000 ∧ (lat x.firms k).length ≤ 1000000000) : Tri Tryz.prog 102 #[.pointer (some ⟨B.g, 0, none⟩), Fc.val f] Hs [gF B E, pF B pm A, aF B x A, uF B x A, oF B x A, iF B x A, rF B x A, sF B x A, E.ef] (fun _ : {H' : Hp // E.St (emits E.stp (someL pm f) nw) fm H'} => .tuple #[]) (fun y => y.1) (fun _ => []) := by
 refine tri_of_body Tryz.func102 rfl rfl Tryz.ntmps102 rfl fun v0 => ?_
 refine run_seq (run_region (ops_box rfl rfl fun b1 => ?_))
 refine ops_nil (fin_next rfl (run_seq ?_))
 refine run_draw' (by kernel_rfl) ?_
 refine any_sq 0 [0, 1, 2, 3, 4, 5, 6, 7, 8, 9] (by kernel_rfl) (fun _ a b => ⟨a, b⟩) ?_
 refine sq_val rfl (yld_move rfl) rfl ?_
 refine sq_val rfl (yld_nilck rfl) rfl ?_
 refine sq_val rfl (yld_field Tryz.runUnderlying94 rfl rfl rfl Tryz.sizeOf87) rfl ?_
 refine sq_val rfl (yld_loadO Tryz.isAgg87 rfl (fun v _ h => by exact h.1) rfl) rfl ?_
 refine sq_val rfl (yld_field Tryz.runUnderlying41 rfl rfl rfl Tryz.sizeOf9) rfl ?_
 refine sq_val rfl (yld_load 0 Tryz.isAgg9 rfl rfl rfl) rfl ?_
 refine sq_val rfl (yld_struct strt171 rfl rfl) rfl ?_
 refine sq_val rfl (yld_lookF (k := (Ky.mk 3 [] (Fc.b f))) (adr := A.p) keyKy Tryz.runUnderlying87 Tryz.zeroValue22 rfl rfl (fun v _ h => by exact h.2.1)) rfl ?_
 refine sq_val rfl (yld_lenS Tryz.runUnderlying22 rfl) rfl ?_
 refine sq_val rfl (yld_move rfl) rfl ?_
 refine sq_nil ?_
 refine any_done (by kernel_rfl) ?_
 refine fin_next rfl (run_block (ok_fr [(0, .pointer (some ⟨B.g, 0, none⟩)), (3, .pointer (some ⟨b1, 0, none⟩)), (13, .slice (Prod.fst (A.p (Ky.mk 3 [] (Fc.b f)))) (List.length (lat pm (Ky.mk 3 [] (Fc.b f)))) (Prod.snd (A.p (Ky.mk 3 [] (Fc.b f))))), (14, .int .i64 (List.length (lat pm (Ky.mk 3 [] (Fc.b f))) : Int)), (15, .int .i64 ((0 : Nat) : Int))] ⟨rfl, rfl, rfl, rfl, rfl, trivial⟩ ?_))
 refine ok_weak (H' := ((b1, .cells #[.int .i64 (Fc.kind f), str (Fc.a f), str (Fc.b f), str (Fc.r f), .int .i64 (Fc.lo f), .int .i64 (Fc.hi f)] 41 (0, 0)) :: Hs)) (Γ' := [gF B E, pF B pm A, aF B x A, uF B x A, oF B x A, iF B x A, rF B x A, sF B x A, E.ef]) (pf_takeB pf_here pf_end) (fun v _ h => by exact ⟨h.1, h.2.1, h.2.2.1, h.2.2.2.1, h.2.2.2.2.1, h.2.2.2.2.2.1, h.2.2.2.2.2.2.1, h.2.2.2.2.2.2.2.1, h.2.2.2.2.2.2.2.2.1, trivial⟩) ?_
 refine run_loop (ι := {y : Nat × Hp // y.1 ≤ List.length (lat pm (Ky.mk 3 [] (Fc.b f))) ∧ E.St (emits E.stp (List.map (fun y => flink (Fc.a f) (Pc.r y) (Pc.c y)) (List.take y.1 (lat pm (Ky.mk 3 [] (Fc.b f))))) nw) fm y.2}) (fun y => [(0, .pointer (some ⟨B.g, 0, none⟩)), (3, .pointer (some ⟨b1, 0, none⟩)), (13, .slice (Prod.fst (A.p (Ky.mk 3 [] (Fc.b f)))) (List.length (lat pm (Ky.mk 3 [] (Fc.b f)))) (Prod.snd (A.p (Ky.mk 3 [] (Fc.b f))))), (14, .int .i64 (List.length (lat pm (Ky.mk 3 [] (Fc.b f))) : Int)), (15, .int .i64 (y.1.1 : Int))]) (fun y => ((b1, .cells #[.int .i64 (Fc.kind f), str (Fc.a f), str (Fc.b f), str (Fc.r f), .int .i64 (Fc.lo f), .int .i64 (Fc.hi f)] 41 (0, 0)) :: y.1.2)) (fun y => [gF B E, pF B pm A, aF B x A, uF B x A, oF B x A, iF B x A, rF B x A, sF B x A, E.ef]) (fun y => List.length (lat pm (Ky.mk 3 [] (Fc.b f))) - y.1.1) ⟨((0 : Nat), Hs), by simp, by exact hS⟩ ?_
 rintro ⟨⟨i, Hs_i⟩, hi_i, hS_i⟩
 dsimp only at hi_i hS_i ⊢
 refine ok_fr [(0, .pointer (some ⟨B.g, 0, none⟩)), (3, .pointer (some ⟨b1, 0, none⟩)), (13, .slice (Prod.fst (A.p (Ky.mk 3 [] (Fc.b f)))) (List.length (lat pm (Ky.mk 3 [] (Fc.b f)))) (Prod.snd (A.p (Ky.mk 3 [] (Fc.b f))))), (14, .int .i64 (List.length (lat pm (Ky.mk 3 [] (Fc.b f))) : Int)), (15, .int .i64 (i : Int))] ⟨rfl, rfl, rfl, rfl, rfl, trivial⟩ ?_
 have hb_i := hpl (Ky.mk 3 [] (Fc.b f))
 refine run_seq (run_region (ops_valB (yld_lss rfl rfl) rfl fun r1 hr1 => ?_))
 refine ops_nil (fin_next rfl (run_seq ?_))
 cases r1
 ·
  replace hr1 := of_decide_eq_false hr1
  refine run_cond_f rfl (run_exit rfl (fin_end rfl ?_))
  exact end0 Tryz.results102 ⟨Hs_i, by unfold someL; rw [List.take_of_length_le (by omega)] at hS_i; exact hS_i⟩ rfl pf_lastB (fun _ _ _ => trivial)
 ·
  replace hr1 := of_decide_eq_true hr1
  have hlx1 : i < List.length (lat pm (Ky.mk 3 [] (Fc.b f))) := by omega
  obtain ⟨x1, hx1⟩ : ∃ e0, (lat pm (Ky.mk 3 [] (Fc.b f)))[i]? = some e0 := ⟨_, List.getElem?_eq_getElem hlx1⟩
  have hmx1 : x1 ∈ (lat pm (Ky.mk 3 [] (Fc.b f))) := List.mem_of_getElem? hx1
  refine run_cond_t rfl (run_skip (fin_next rfl (run_seq (run_block (run_seq (run_region (ops_val (yld_indexR Tryz.runUnderlying22 Tryz.sizeOf47 rfl rfl (fun v _ h => row_adr (n := 10) Pc.cells_len (by decide) (by exact (mlF_row h.2.1 (Ky.mk 3 [] (Fc.b f)))) hx1) (by omega) (by first | omega | (simp; done))) rfl ?_)))))))
  refine ops_val (yld_loadRS (ad := (Prod.fst (A.p (Ky.mk 3 [] (Fc.b f))))) (us := Pc.cells x1) Tryz.isAgg47 Tryz.sizeOf47 rfl (fun v _ h => by exact (mlF_row h.2.1 (Ky.mk 3 [] (Fc.b f)))) (Pc.cells_len _) (row_cells Pc.cells_len hx1)) rfl ?_
  refine ops_alloc Tryz.zeroValue47 rfl fun b2 => ?_
  refine ops_store 0 Tryz.sizeOf47 rfl rfl rfl rfl rfl rfl ?_
  refine ops_nil (fin_next rfl ?_)
  refine run_drawH ((b2, .cells #[.int .i64 (Pc.kind x1), str (Pc.a x1), str (Pc.b x1), str (Pc.c x1), str (Pc.r x1), str (Pc.s x1), str (Pc.t x1), .int .i64 (Pc.lo x1), .int .i64 (Pc.hi x1), .int .i64 (Pc.frm x1)] 47 (0, 0)) :: ((b1, .cells #[.int .i64 (Fc.kind f), str (Fc.a f), str (Fc.b f), str (Fc.r f), .int .i64 (Fc.lo f), .int .i64 (Fc.hi f)] 41 (0, 0)) :: [])) (by kernel_rfl) ?_
  refine any_sq 2 [0, 1, 2, 3, 4, 5, 6, 7, 8, 9] (by kernel_rfl) (fun _ a b => ⟨Vw.sat.sub (a.perm (pf_takeB pf_here pf_here)), b⟩) ?_
  refine sq_val rfl (yld_move rfl) rfl ?_
  refine sq_val rfl (yld_nilck rfl) rfl ?_
  refine sq_val rfl (yld_field Tryz.runUnderlying94 rfl rfl rfl Tryz.sizeOf89) rfl ?_
  refine sq_val rfl (yld_loadO Tryz.isAgg89 rfl (fun v _ h => by exact h.1) rfl) rfl ?_
  refine sq_val rfl (yld_field Tryz.runUnderlying41 rfl rfl rfl Tryz.sizeOf9) rfl ?_
  refine sq_val rfl (yld_load 1 Tryz.isAgg9 rfl rfl rfl) rfl ?_
  refine sq_val rfl (yld_field Tryz.runUnderlying47 rfl rfl rfl Tryz.sizeOf9) rfl ?_
  refine sq_val rfl (yld_load 0 Tryz.isAgg9 rfl rfl rfl) rfl ?_
  refine sq_val rfl (yld_field Tryz.runUnderlying47 rfl rfl rfl Tryz.sizeOf9) rfl ?_
  refine sq_val rfl (yld_load 0 Tryz.isAgg9 rfl rfl rfl) rfl ?_
  refine sq_nil ?_
  refine any_one 10 rfl (by kernel_rfl) ?_
  refine ops_call (link_c (Fc.a f) (Pc.r x1) (Pc.c x1)) rfl pf_nil (fun _ _ _ => by exact trivial) rfl fun _ => ?_
  refine ops_nil (fin_inv rfl (any_next (fun _ a b => ⟨Vw.sat.sub (a.perm (pf_takeB pf_here pf_here)), b⟩) ?_))
  refine any_one 11 rfl (by kernel_rfl) ?_
  refine ops_calld (first := []) (cap := E.caps) (E.emit (flink (Fc.a f) (Pc.r x1) (Pc.c x1)) (emits E.stp (List.map (fun y => flink (Fc.a f) (Pc.r y) (Pc.c y)) (List.take i (lat pm (Ky.mk 3 [] (Fc.b f))))) nw) fm Hs_i hS_i) rfl rfl (pf_cons pf_lastB) (fun v _ h => by exact ⟨h.2.2.2.2.2.2.2.2.1, trivial⟩) rfl fun ⟨Hs1, hS1⟩ => ?_
  dsimp only
  refine ops_nil (fin_inv rfl (any_next (fun _ a b => ⟨Vw.sat.sub (a.perm (pf_takeB (pf_app pf_here) pf_last)), b⟩) ?_))
  refine any_done (by kernel_rfl) ?_
  refine fin_next rfl (run_region (ops_val (yld_arith rfl rfl rfl (wrap64 (by omega) (by omega))) rfl ?_))
  refine ops_val (yld_move rfl) rfl (ops_nil (fin_inv rfl ?_))
  exact ok_again ⟨(i + 1, Hs1), hlx1, (by rw [map_step hx1, emits_append]; exact hS1)⟩ (by dsimp only; omega) ⟨rfl, rfl, rfl, rfl, rfl, trivial⟩ (pf_takeB (pf_app (pf_cons pf_here)) pf_hereO) (fun v _ h => by exact ⟨h.1, h.2.1, h.2.2.1, h.2.2.2.1, h.2.2.2.2.1, h.2.2.2.2.2.1, h.2.2.2.2.2.2.1, h.2.2.2.2.2.2.2.1, h.2.2.2.2.2.2.2.2.1, trivial⟩)
theorem include_c (B : EngB) (E : Emt Tryz.prog 41) (A : EngA) (pm : List (Ky × Pc)) (x : Ix) (f : Fc) (nw fm : List Fc) (Hs : Hp) (hS : E.St nw fm Hs) (hpl : ∀ k, (lat pm k).length ≤ 1000000000) (hxl : ∀ k, (lat x.above k).length ≤ 1000000000 ∧ (lat x.under k).length ≤ 1000000000) (hyl : ∀ k, (lat x.frm k).length ≤ 1000000000 ∧ (lat x.into k).length ≤ 1000000000 ∧ (lat x.ranges k).length ≤ 1000000000 ∧ (lat x.firms k).length ≤ 1000000000) : Tri Tryz.prog 106 #[.pointer (some ⟨B.g, 0, none⟩), Fc.val f] Hs [gF B E, pF B pm A, aF B x A, uF B x A, oF B x A, iF B x A, rF B x A, sF B x A, E.ef] (fun _ : {H' : Hp // E.St (emits E.stp (includeL pm f) nw) fm H'} => .tuple #[]) (fun y => y.1) (fun _ => []) := by
 refine tri_of_body Tryz.func106 rfl rfl Tryz.ntmps106 rfl fun v0 => ?_
 refine run_seq (run_region (ops_box rfl rfl fun b1 => ?_))
 refine ops_nil (fin_next rfl (run_seq ?_))
 refine run_draw' (by kernel_rfl) ?_
 refine any_sq 0 [0, 1, 2, 3, 4, 5, 6, 7, 8, 9] (by kernel_rfl) (fun _ a b => ⟨a, b⟩) ?_
 refine sq_val rfl (yld_move rfl) rfl ?_
 refine sq_val rfl (yld_nilck rfl) rfl ?_
 refine sq_val rfl (yld_field Tryz.runUnderlying94 rfl rfl rfl Tryz.sizeOf87) rfl ?_
 refine sq_val rfl (yld_loadO Tryz.isAgg87 rfl (fun v _ h => by exact h.1) rfl) rfl ?_
 refine sq_val rfl (yld_field Tryz.runUnderlying41 rfl rfl rfl Tryz.sizeOf9) rfl ?_
 refine sq_val rfl (yld_load 0 Tryz.isAgg9 rfl rfl rfl) rfl ?_
 refine sq_val rfl (yld_struct strt171 rfl rfl) rfl ?_
 refine sq_val rfl (yld_lookF (k := (Ky.mk 5 (Fc.r f) [])) (adr := A.p) keyKy Tryz.runUnderlying87 Tryz.zeroValue22 rfl rfl (fun v _ h => by exact h.2.1)) rfl ?_
 refine sq_val rfl (yld_lenS Tryz.runUnderlying22 rfl) rfl ?_
 refine sq_val rfl (yld_move rfl) rfl ?_
 refine sq_nil ?_
 refine any_done (by kernel_rfl) ?_
 refine fin_next rfl (run_block (ok_fr [(0, .pointer (some ⟨B.g, 0, none⟩)), (3, .pointer (some ⟨b1, 0, none⟩)), (13, .slice (Prod.fst (A.p (Ky.mk 5 (Fc.r f) []))) (List.length (lat pm (Ky.mk 5 (Fc.r f) []))) (Prod.snd (A.p (Ky.mk 5 (Fc.r f) [])))), (14, .int .i64 (List.length (lat pm (Ky.mk 5 (Fc.r f) [])) : Int)), (15, .int .i64 ((0 : Nat) : Int))] ⟨rfl, rfl, rfl, rfl, rfl, trivial⟩ ?_))
 refine ok_weak (H' := ((b1, .cells #[.int .i64 (Fc.kind f), str (Fc.a f), str (Fc.b f), str (Fc.r f), .int .i64 (Fc.lo f), .int .i64 (Fc.hi f)] 41 (0, 0)) :: Hs)) (Γ' := [gF B E, pF B pm A, aF B x A, uF B x A, oF B x A, iF B x A, rF B x A, sF B x A, E.ef]) (pf_takeB pf_here pf_end) (fun v _ h => by exact ⟨h.1, h.2.1, h.2.2.1, h.2.2.2.1, h.2.2.2.2.1, h.2.2.2.2.2.1, h.2.2.2.2.2.2.1, h.2.2.2.2.2.2.2.1, h.2.2.2.2.2.2.2.2.1, trivial⟩) ?_
 refine run_loop (ι := {y : Nat × Hp // y.1 ≤ List.length (lat pm (Ky.mk 5 (Fc.r f) [])) ∧ E.St (emits E.stp (List.map (fun y => flink (Fc.a f) (Pc.t y) (Fc.b f)) (List.take y.1 (lat pm (Ky.mk 5 (Fc.r f) [])))) nw) fm y.2}) (fun y => [(0, .pointer (some ⟨B.g, 0, none⟩)), (3, .pointer (some ⟨b1, 0, none⟩)), (13, .slice (Prod.fst (A.p (Ky.mk 5 (Fc.r f) []))) (List.length (lat pm (Ky.mk 5 (Fc.r f) []))) (Prod.snd (A.p (Ky.mk 5 (Fc.r f) [])))), (14, .int .i64 (List.length (lat pm (Ky.mk 5 (Fc.r f) [])) : Int)), (15, .int .i64 (y.1.1 : Int))]) (fun y => ((b1, .cells #[.int .i64 (Fc.kind f), str (Fc.a f), str (Fc.b f), str (Fc.r f), .int .i64 (Fc.lo f), .int .i64 (Fc.hi f)] 41 (0, 0)) :: y.1.2)) (fun y => [gF B E, pF B pm A, aF B x A, uF B x A, oF B x A, iF B x A, rF B x A, sF B x A, E.ef]) (fun y => List.length (lat pm (Ky.mk 5 (Fc.r f) [])) - y.1.1) ⟨((0 : Nat), Hs), by simp, by exact hS⟩ ?_
 rintro ⟨⟨i, Hs_i⟩, hi_i, hS_i⟩
 dsimp only at hi_i hS_i ⊢
 refine ok_fr [(0, .pointer (some ⟨B.g, 0, none⟩)), (3, .pointer (some ⟨b1, 0, none⟩)), (13, .slice (Prod.fst (A.p (Ky.mk 5 (Fc.r f) []))) (List.length (lat pm (Ky.mk 5 (Fc.r f) []))) (Prod.snd (A.p (Ky.mk 5 (Fc.r f) [])))), (14, .int .i64 (List.length (lat pm (Ky.mk 5 (Fc.r f) [])) : Int)), (15, .int .i64 (i : Int))] ⟨rfl, rfl, rfl, rfl, rfl, trivial⟩ ?_
 have hb_i := hpl (Ky.mk 5 (Fc.r f) [])
 refine run_seq (run_region (ops_valB (yld_lss rfl rfl) rfl fun r1 hr1 => ?_))
 refine ops_nil (fin_next rfl (run_seq ?_))
 cases r1
 ·
  replace hr1 := of_decide_eq_false hr1
  refine run_cond_f rfl (run_exit rfl (fin_end rfl ?_))
  exact end0 Tryz.results106 ⟨Hs_i, by unfold includeL; rw [List.take_of_length_le (by omega)] at hS_i; exact hS_i⟩ rfl pf_lastB (fun _ _ _ => trivial)
 ·
  replace hr1 := of_decide_eq_true hr1
  have hlx1 : i < List.length (lat pm (Ky.mk 5 (Fc.r f) [])) := by omega
  obtain ⟨x1, hx1⟩ : ∃ e0, (lat pm (Ky.mk 5 (Fc.r f) []))[i]? = some e0 := ⟨_, List.getElem?_eq_getElem hlx1⟩
  have hmx1 : x1 ∈ (lat pm (Ky.mk 5 (Fc.r f) [])) := List.mem_of_getElem? hx1
  refine run_cond_t rfl (run_skip (fin_next rfl (run_seq (run_block (run_seq (run_region (ops_val (yld_indexR Tryz.runUnderlying22 Tryz.sizeOf47 rfl rfl (fun v _ h => row_adr (n := 10) Pc.cells_len (by decide) (by exact (mlF_row h.2.1 (Ky.mk 5 (Fc.r f) []))) hx1) (by omega) (by first | omega | (simp; done))) rfl ?_)))))))
  refine ops_val (yld_loadRS (ad := (Prod.fst (A.p (Ky.mk 5 (Fc.r f) [])))) (us := Pc.cells x1) Tryz.isAgg47 Tryz.sizeOf47 rfl (fun v _ h => by exact (mlF_row h.2.1 (Ky.mk 5 (Fc.r f) []))) (Pc.cells_len _) (row_cells Pc.cells_len hx1)) rfl ?_
  refine ops_alloc Tryz.zeroValue47 rfl fun b2 => ?_
  refine ops_store 0 Tryz.sizeOf47 rfl rfl rfl rfl rfl rfl ?_
  refine ops_nil (fin_next rfl ?_)
  refine run_drawH ((b2, .cells #[.int .i64 (Pc.kind x1), str (Pc.a x1), str (Pc.b x1), str (Pc.c x1), str (Pc.r x1), str (Pc.s x1), str (Pc.t x1), .int .i64 (Pc.lo x1), .int .i64 (Pc.hi x1), .int .i64 (Pc.frm x1)] 47 (0, 0)) :: ((b1, .cells #[.int .i64 (Fc.kind f), str (Fc.a f), str (Fc.b f), str (Fc.r f), .int .i64 (Fc.lo f), .int .i64 (Fc.hi f)] 41 (0, 0)) :: [])) (by kernel_rfl) ?_
  refine any_sq 2 [0, 1, 2, 3, 4, 5, 6, 7, 8, 9] (by kernel_rfl) (fun _ a b => ⟨Vw.sat.sub (a.perm (pf_takeB pf_here pf_here)), b⟩) ?_
  refine sq_val rfl (yld_move rfl) rfl ?_
  refine sq_val rfl (yld_nilck rfl) rfl ?_
  refine sq_val rfl (yld_field Tryz.runUnderlying94 rfl rfl rfl Tryz.sizeOf89) rfl ?_
  refine sq_val rfl (yld_loadO Tryz.isAgg89 rfl (fun v _ h => by exact h.1) rfl) rfl ?_
  refine sq_val rfl (yld_field Tryz.runUnderlying41 rfl rfl rfl Tryz.sizeOf9) rfl ?_
  refine sq_val rfl (yld_load 1 Tryz.isAgg9 rfl rfl rfl) rfl ?_
  refine sq_val rfl (yld_field Tryz.runUnderlying47 rfl rfl rfl Tryz.sizeOf9) rfl ?_
  refine sq_val rfl (yld_load 0 Tryz.isAgg9 rfl rfl rfl) rfl ?_
  refine sq_val rfl (yld_field Tryz.runUnderlying41 rfl rfl rfl Tryz.sizeOf9) rfl ?_
  refine sq_val rfl (yld_load 1 Tryz.isAgg9 rfl rfl rfl) rfl ?_
  refine sq_nil ?_
  refine any_one 10 rfl (by kernel_rfl) ?_
  refine ops_call (link_c (Fc.a f) (Pc.t x1) (Fc.b f)) rfl pf_nil (fun _ _ _ => by exact trivial) rfl fun _ => ?_
  refine ops_nil (fin_inv rfl (any_next (fun _ a b => ⟨Vw.sat.sub (a.perm (pf_takeB pf_here pf_here)), b⟩) ?_))
  refine any_one 11 rfl (by kernel_rfl) ?_
  refine ops_calld (first := []) (cap := E.caps) (E.emit (flink (Fc.a f) (Pc.t x1) (Fc.b f)) (emits E.stp (List.map (fun y => flink (Fc.a f) (Pc.t y) (Fc.b f)) (List.take i (lat pm (Ky.mk 5 (Fc.r f) [])))) nw) fm Hs_i hS_i) rfl rfl (pf_cons pf_lastB) (fun v _ h => by exact ⟨h.2.2.2.2.2.2.2.2.1, trivial⟩) rfl fun ⟨Hs1, hS1⟩ => ?_
  dsimp only
  refine ops_nil (fin_inv rfl (any_next (fun _ a b => ⟨Vw.sat.sub (a.perm (pf_takeB (pf_app pf_here) pf_last)), b⟩) ?_))
  refine any_done (by kernel_rfl) ?_
  refine fin_next rfl (run_region (ops_val (yld_arith rfl rfl rfl (wrap64 (by omega) (by omega))) rfl ?_))
  refine ops_val (yld_move rfl) rfl (ops_nil (fin_inv rfl ?_))
  exact ok_again ⟨(i + 1, Hs1), hlx1, (by rw [map_step hx1, emits_append]; exact hS1)⟩ (by dsimp only; omega) ⟨rfl, rfl, rfl, rfl, rfl, trivial⟩ (pf_takeB (pf_app (pf_cons pf_here)) pf_hereO) (fun v _ h => by exact ⟨h.1, h.2.1, h.2.2.1, h.2.2.2.1, h.2.2.2.2.1, h.2.2.2.2.2.1, h.2.2.2.2.2.2.1, h.2.2.2.2.2.2.2.1, h.2.2.2.2.2.2.2.2.1, trivial⟩)
theorem fmap_step {α β : Type} {g : α → List β} {l : List α} {i : Nat} {x : α} (h : l[i]? = some x) : List.flatMap g (List.take (i + 1) l) = List.flatMap g (List.take i l) ++ g x := by
  rw [List.take_add_one, h, Option.toList_some, List.flatMap_append]; simp
theorem both_step {stp : Fc → List Fc → List Fc} {kof : List Fc → List Fc} {f : Fc} {l : List Pc} {i : Nat} {x : Pc} {s : List Fc} (h : l[i]? = some x) : bothF stp kof f (List.take (i + 1) l) s = if fsub f.a x.a ∈ kof (bothF stp kof f (List.take i l) s) ∧ fsub f.a x.b ∈ kof (bothF stp kof f (List.take i l) s) then stp (fsub f.a x.c) (bothF stp kof f (List.take i l) s) else bothF stp kof f (List.take i l) s := by
  unfold bothF
  rw [List.take_add_one, h, Option.toList_some, List.foldl_append]; rfl
theorem value_step {stp : Fc → List Fc → List Fc} {kof : List Fc → List Fc} {f : Fc} {l : List Pc} {i : Nat} {x : Pc} {s : List Fc × List Fc} (h : l[i]? = some x) : valueF stp kof f (List.take (i + 1) l) s = (stp (fspan f.a x.r x.lo x.hi) (valueF stp kof f (List.take i l) s).1, if fspan f.a x.r x.lo x.hi ∈ kof (valueF stp kof f (List.take i l) s).1 then (valueF stp kof f (List.take i l) s).2 else fspan f.a x.r x.lo x.hi :: (valueF stp kof f (List.take i l) s).2) := by
  unfold valueF
  rw [List.take_add_one, h, Option.toList_some, List.foldl_append]; rfl
theorem both_c (B : EngB) (E : Emt Tryz.prog 41) (A : EngA) (pm : List (Ky × Pc)) (x : Ix) (f : Fc) (nw fm : List Fc) (Hs : Hp) (hS : E.St nw fm Hs) (hpl : ∀ k, (lat pm k).length ≤ 1000000000) (hxl : ∀ k, (lat x.above k).length ≤ 1000000000 ∧ (lat x.under k).length ≤ 1000000000) (hyl : ∀ k, (lat x.frm k).length ≤ 1000000000 ∧ (lat x.into k).length ≤ 1000000000 ∧ (lat x.ranges k).length ≤ 1000000000 ∧ (lat x.firms k).length ≤ 1000000000) : Tri Tryz.prog 101 #[.pointer (some ⟨B.g, 0, none⟩), Fc.val f] Hs [gF B E, pF B pm A, aF B x A, uF B x A, oF B x A, iF B x A, rF B x A, sF B x A, E.ef] (fun _ : {H' : Hp // E.St (bothF E.stp E.kof f (lat pm (Ky.mk 2 [] (Fc.b f))) nw) fm H'} => .tuple #[]) (fun y => y.1) (fun _ => []) := by
 refine tri_of_body Tryz.func101 rfl rfl Tryz.ntmps101 rfl fun v0 => ?_
 refine run_seq (run_region (ops_box rfl rfl fun b1 => ?_))
 refine ops_nil (fin_next rfl (run_seq ?_))
 refine run_draw' (by kernel_rfl) ?_
 refine any_sq 0 [0, 1, 2, 3, 4, 5, 6, 7, 8, 9] (by kernel_rfl) (fun _ a b => ⟨a, b⟩) ?_
 refine sq_val rfl (yld_move rfl) rfl ?_
 refine sq_val rfl (yld_nilck rfl) rfl ?_
 refine sq_val rfl (yld_field Tryz.runUnderlying94 rfl rfl rfl Tryz.sizeOf87) rfl ?_
 refine sq_val rfl (yld_loadO Tryz.isAgg87 rfl (fun v _ h => by exact h.1) rfl) rfl ?_
 refine sq_val rfl (yld_field Tryz.runUnderlying41 rfl rfl rfl Tryz.sizeOf9) rfl ?_
 refine sq_val rfl (yld_load 0 Tryz.isAgg9 rfl rfl rfl) rfl ?_
 refine sq_val rfl (yld_struct strt171 rfl rfl) rfl ?_
 refine sq_val rfl (yld_lookF (k := (Ky.mk 2 [] (Fc.b f))) (adr := A.p) keyKy Tryz.runUnderlying87 Tryz.zeroValue22 rfl rfl (fun v _ h => by exact h.2.1)) rfl ?_
 refine sq_val rfl (yld_lenS Tryz.runUnderlying22 rfl) rfl ?_
 refine sq_val rfl (yld_move rfl) rfl ?_
 refine sq_nil ?_
 refine any_done (by kernel_rfl) ?_
 refine fin_next rfl (run_block (ok_fr [(0, .pointer (some ⟨B.g, 0, none⟩)), (3, .pointer (some ⟨b1, 0, none⟩)), (13, .slice (Prod.fst (A.p (Ky.mk 2 [] (Fc.b f)))) (List.length (lat pm (Ky.mk 2 [] (Fc.b f)))) (Prod.snd (A.p (Ky.mk 2 [] (Fc.b f))))), (14, .int .i64 (List.length (lat pm (Ky.mk 2 [] (Fc.b f))) : Int)), (15, .int .i64 ((0 : Nat) : Int))] ⟨rfl, rfl, rfl, rfl, rfl, trivial⟩ ?_))
 refine ok_weak (H' := ((b1, .cells #[.int .i64 (Fc.kind f), str (Fc.a f), str (Fc.b f), str (Fc.r f), .int .i64 (Fc.lo f), .int .i64 (Fc.hi f)] 41 (0, 0)) :: Hs)) (Γ' := [gF B E, pF B pm A, aF B x A, uF B x A, oF B x A, iF B x A, rF B x A, sF B x A, E.ef]) (pf_takeB pf_here pf_end) (fun v _ h => by exact ⟨h.1, h.2.1, h.2.2.1, h.2.2.2.1, h.2.2.2.2.1, h.2.2.2.2.2.1, h.2.2.2.2.2.2.1, h.2.2.2.2.2.2.2.1, h.2.2.2.2.2.2.2.2.1, trivial⟩) ?_
 refine run_loop (ι := {y : Nat × Hp // y.1 ≤ List.length (lat pm (Ky.mk 2 [] (Fc.b f))) ∧ E.St (bothF E.stp E.kof f (List.take y.1 (lat pm (Ky.mk 2 [] (Fc.b f)))) nw) fm y.2}) (fun y => [(0, .pointer (some ⟨B.g, 0, none⟩)), (3, .pointer (some ⟨b1, 0, none⟩)), (13, .slice (Prod.fst (A.p (Ky.mk 2 [] (Fc.b f)))) (List.length (lat pm (Ky.mk 2 [] (Fc.b f)))) (Prod.snd (A.p (Ky.mk 2 [] (Fc.b f))))), (14, .int .i64 (List.length (lat pm (Ky.mk 2 [] (Fc.b f))) : Int)), (15, .int .i64 (y.1.1 : Int))]) (fun y => ((b1, .cells #[.int .i64 (Fc.kind f), str (Fc.a f), str (Fc.b f), str (Fc.r f), .int .i64 (Fc.lo f), .int .i64 (Fc.hi f)] 41 (0, 0)) :: y.1.2)) (fun y => [gF B E, pF B pm A, aF B x A, uF B x A, oF B x A, iF B x A, rF B x A, sF B x A, E.ef]) (fun y => List.length (lat pm (Ky.mk 2 [] (Fc.b f))) - y.1.1) ⟨((0 : Nat), Hs), by simp, by exact hS⟩ ?_
 rintro ⟨⟨i, Hs_i⟩, hi_i, hS_i⟩
 dsimp only at hi_i hS_i ⊢
 refine ok_fr [(0, .pointer (some ⟨B.g, 0, none⟩)), (3, .pointer (some ⟨b1, 0, none⟩)), (13, .slice (Prod.fst (A.p (Ky.mk 2 [] (Fc.b f)))) (List.length (lat pm (Ky.mk 2 [] (Fc.b f)))) (Prod.snd (A.p (Ky.mk 2 [] (Fc.b f))))), (14, .int .i64 (List.length (lat pm (Ky.mk 2 [] (Fc.b f))) : Int)), (15, .int .i64 (i : Int))] ⟨rfl, rfl, rfl, rfl, rfl, trivial⟩ ?_
 have hb_i := hpl (Ky.mk 2 [] (Fc.b f))
 refine run_seq (run_region (ops_valB (yld_lss rfl rfl) rfl fun r1 hr1 => ?_))
 refine ops_nil (fin_next rfl (run_seq ?_))
 cases r1
 ·
  replace hr1 := of_decide_eq_false hr1
  refine run_cond_f rfl (run_exit rfl (fin_end rfl ?_))
  exact end0 Tryz.results101 ⟨Hs_i, by rw [List.take_of_length_le (by omega)] at hS_i; exact hS_i⟩ rfl pf_lastB (fun _ _ _ => trivial)
 ·
  replace hr1 := of_decide_eq_true hr1
  have hlx1 : i < List.length (lat pm (Ky.mk 2 [] (Fc.b f))) := by omega
  obtain ⟨x1, hx1⟩ : ∃ e0, (lat pm (Ky.mk 2 [] (Fc.b f)))[i]? = some e0 := ⟨_, List.getElem?_eq_getElem hlx1⟩
  have hmx1 : x1 ∈ (lat pm (Ky.mk 2 [] (Fc.b f))) := List.mem_of_getElem? hx1
  refine run_cond_t rfl (run_skip (fin_next rfl (run_seq (run_block (run_seq (run_region (ops_val (yld_indexR Tryz.runUnderlying22 Tryz.sizeOf47 rfl rfl (fun v _ h => row_adr (n := 10) Pc.cells_len (by decide) (by exact (mlF_row h.2.1 (Ky.mk 2 [] (Fc.b f)))) hx1) (by omega) (by first | omega | (simp; done))) rfl ?_)))))))
  refine ops_val (yld_loadRS (ad := (Prod.fst (A.p (Ky.mk 2 [] (Fc.b f))))) (us := Pc.cells x1) Tryz.isAgg47 Tryz.sizeOf47 rfl (fun v _ h => by exact (mlF_row h.2.1 (Ky.mk 2 [] (Fc.b f)))) (Pc.cells_len _) (row_cells Pc.cells_len hx1)) rfl ?_
  refine ops_alloc Tryz.zeroValue47 rfl fun b2 => ?_
  refine ops_store 0 Tryz.sizeOf47 rfl rfl rfl rfl rfl rfl ?_
  refine ops_nil (fin_next rfl (run_seq ?_))
  refine run_draw' (by kernel_rfl) ?_
  refine any_sq 14 [0, 1, 2, 3, 4, 5, 6, 7] (by kernel_rfl) (fun _ a b => ⟨a, b⟩) ?_
  refine sq_val rfl (yld_move rfl) rfl ?_
  refine sq_val rfl (yld_nilck rfl) rfl ?_
  refine sq_val rfl (yld_field Tryz.runUnderlying94 rfl rfl rfl Tryz.sizeOf88) rfl ?_
  refine sq_val rfl (yld_loadO Tryz.isAgg88 rfl (fun v _ h => by exact h.1) rfl) rfl ?_
  refine sq_val rfl (yld_field Tryz.runUnderlying41 rfl rfl rfl Tryz.sizeOf9) rfl ?_
  refine sq_val rfl (yld_load 1 Tryz.isAgg9 rfl rfl rfl) rfl ?_
  refine sq_val rfl (yld_field Tryz.runUnderlying47 rfl rfl rfl Tryz.sizeOf9) rfl ?_
  refine sq_val rfl (yld_load 0 Tryz.isAgg9 rfl rfl rfl) rfl ?_
  refine sq_nil ?_
  refine any_one 8 rfl (by kernel_rfl) ?_
  refine ops_call (sub_c (Fc.a f) (Pc.a x1)) rfl pf_nil (fun _ _ _ => by exact trivial) rfl fun _ => ?_
  refine ops_nil (fin_inv rfl (any_next (fun _ a b => ⟨a, b⟩) ?_))
  refine any_sq 11 [9, 10] (by kernel_rfl) (fun _ a b => ⟨a, b⟩) ?_
  refine sq_valB rfl (yld_known (f := (fsub (Fc.a f) (Pc.a x1))) hS_i keyFc Tryz.runUnderlying88 Tryz.zeroValue4 rfl rfl (pf_cons pf_lastB)) rfl fun r2 hr2 => ?_
  refine sq_val rfl (yld_move rfl) rfl ?_
  refine sq_nil ?_
  cases r2
  ·
   replace hr2 := of_decide_eq_false hr2
   refine any_sq 0 [11, 12, 13, 14, 15, 16, 17, 18, 19, 20, 21] (by kernel_rfl) (fun _ a b => ⟨a, b⟩) ?_
   refine sq_no rfl rfl rfl rfl rfl ?_
   refine sq_no rfl rfl rfl rfl rfl ?_
   refine sq_no rfl rfl rfl rfl rfl ?_
   refine sq_no rfl rfl rfl rfl rfl ?_
   refine sq_no rfl rfl rfl rfl rfl ?_
   refine sq_no rfl rfl rfl rfl rfl ?_
   refine sq_no rfl rfl rfl rfl rfl ?_
   refine sq_no rfl rfl rfl rfl rfl ?_
   refine sq_no rfl rfl rfl rfl rfl ?_
   refine sq_no rfl rfl rfl rfl rfl ?_
   refine sq_val rfl (yld_pick_f rfl rfl) rfl ?_
   refine sq_nil ?_
   refine any_done (by kernel_rfl) ?_
   refine fin_next rfl (run_cond_f rfl (run_skip (fin_next rfl (run_region (ops_val (yld_arith rfl rfl rfl (wrap64 (by omega) (by omega))) rfl ?_)))))
   refine ops_val (yld_move rfl) rfl (ops_nil (fin_inv rfl ?_))
   exact ok_again ⟨(i + 1, Hs_i), hlx1, (by rw [both_step hx1]; first | (rw [if_pos ⟨by assumption, by assumption⟩]; exact hS_i) | (rw [if_neg (fun q => absurd q.1 (by assumption))]; exact hS_i) | (rw [if_neg (fun q => absurd q.2 (by assumption))]; exact hS_i))⟩ (by dsimp only; omega) ⟨rfl, rfl, rfl, rfl, rfl, trivial⟩ (pf_takeB (pf_cons pf_here) pf_lastB) (fun v _ h => by exact ⟨h.1, h.2.1, h.2.2.1, h.2.2.2.1, h.2.2.2.2.1, h.2.2.2.2.2.1, h.2.2.2.2.2.2.1, h.2.2.2.2.2.2.2.1, h.2.2.2.2.2.2.2.2.1, trivial⟩)
  ·
   replace hr2 := of_decide_eq_true hr2
   refine any_sq 3 [11, 12, 13, 14, 15, 16, 17, 18] (by kernel_rfl) (fun _ a b => ⟨a, b⟩) ?_
   refine sq_valY rfl rfl rfl (yld_move rfl) rfl ?_
   refine sq_valY rfl rfl rfl (yld_nilck rfl) rfl ?_
   refine sq_valY rfl rfl rfl (yld_field Tryz.runUnderlying94 rfl rfl rfl Tryz.sizeOf88) rfl ?_
   refine sq_valY rfl rfl rfl (yld_loadO Tryz.isAgg88 rfl (fun v _ h => by exact h.1) rfl) rfl ?_
   refine sq_valY rfl rfl rfl (yld_field Tryz.runUnderlying41 rfl rfl rfl Tryz.sizeOf9) rfl ?_
   refine sq_valY rfl rfl rfl (yld_load 1 Tryz.isAgg9 rfl rfl rfl) rfl ?_
   refine sq_valY rfl rfl rfl (yld_field Tryz.runUnderlying47 rfl rfl rfl Tryz.sizeOf9) rfl ?_
   refine sq_valY rfl rfl rfl (yld_load 0 Tryz.isAgg9 rfl rfl rfl) rfl ?_
   refine sq_nil ?_
   refine any_one 19 rfl (by kernel_rfl) ?_
   refine ops_yes rfl rfl (ops_call (sub_c (Fc.a f) (Pc.b x1)) rfl pf_nil (fun _ _ _ => by exact trivial) rfl fun _ => ?_)
   refine ops_nil (fin_inv rfl (any_next (fun _ a b => ⟨a, b⟩) ?_))
   refine any_sq 0 [20, 21] (by kernel_rfl) (fun _ a b => ⟨a, b⟩) ?_
   refine sq_valYB rfl rfl rfl (yld_known (f := (fsub (Fc.a f) (Pc.b x1))) hS_i keyFc Tryz.runUnderlying88 Tryz.zeroValue4 rfl rfl (pf_cons pf_lastB)) rfl fun r3 hr3 => ?_
   refine sq_val rfl (yld_pick_t rfl rfl) rfl ?_
   refine sq_nil ?_
   refine any_done (by kernel_rfl) ?_
   refine fin_next rfl ?_
   cases r3
   ·
    replace hr3 := of_decide_eq_false hr3
    refine run_cond_f rfl (run_skip (fin_next rfl (run_region (ops_val (yld_arith rfl rfl rfl (wrap64 (by omega) (by omega))) rfl ?_))))
    refine ops_val (yld_move rfl) rfl (ops_nil (fin_inv rfl ?_))
    exact ok_again ⟨(i + 1, Hs_i), hlx1, (by rw [both_step hx1]; first | (rw [if_pos ⟨by assumption, by assumption⟩]; exact hS_i) | (rw [if_neg (fun q => absurd q.1 (by assumption))]; exact hS_i) | (rw [if_neg (fun q => absurd q.2 (by assumption))]; exact hS_i))⟩ (by dsimp only; omega) ⟨rfl, rfl, rfl, rfl, rfl, trivial⟩ (pf_takeB (pf_cons pf_here) pf_lastB) (fun v _ h => by exact ⟨h.1, h.2.1, h.2.2.1, h.2.2.2.1, h.2.2.2.2.1, h.2.2.2.2.2.1, h.2.2.2.2.2.2.1, h.2.2.2.2.2.2.2.1, h.2.2.2.2.2.2.2.2.1, trivial⟩)
   ·
    replace hr3 := of_decide_eq_true hr3
    refine run_cond_t rfl ?_
    refine run_drawH ((b2, .cells #[.int .i64 (Pc.kind x1), str (Pc.a x1), str (Pc.b x1), str (Pc.c x1), str (Pc.r x1), str (Pc.s x1), str (Pc.t x1), .int .i64 (Pc.lo x1), .int .i64 (Pc.hi x1), .int .i64 (Pc.frm x1)] 47 (0, 0)) :: ((b1, .cells #[.int .i64 (Fc.kind f), str (Fc.a f), str (Fc.b f), str (Fc.r f), .int .i64 (Fc.lo f), .int .i64 (Fc.hi f)] 41 (0, 0)) :: [])) (by kernel_rfl) ?_
    refine any_sq 2 [0, 1, 2, 3, 4, 5, 6, 7] (by kernel_rfl) (fun _ a b => ⟨Vw.sat.sub (a.perm (pf_takeB pf_here pf_here)), b⟩) ?_
    refine sq_val rfl (yld_move rfl) rfl ?_
    refine sq_val rfl (yld_nilck rfl) rfl ?_
    refine sq_val rfl (yld_field Tryz.runUnderlying94 rfl rfl rfl Tryz.sizeOf89) rfl ?_
    refine sq_val rfl (yld_loadO Tryz.isAgg89 rfl (fun v _ h => by exact h.1) rfl) rfl ?_
    refine sq_val rfl (yld_field Tryz.runUnderlying41 rfl rfl rfl Tryz.sizeOf9) rfl ?_
    refine sq_val rfl (yld_load 1 Tryz.isAgg9 rfl rfl rfl) rfl ?_
    refine sq_val rfl (yld_field Tryz.runUnderlying47 rfl rfl rfl Tryz.sizeOf9) rfl ?_
    refine sq_val rfl (yld_load 0 Tryz.isAgg9 rfl rfl rfl) rfl ?_
    refine sq_nil ?_
    refine any_one 8 rfl (by kernel_rfl) ?_
    refine ops_call (sub_c (Fc.a f) (Pc.c x1)) rfl pf_nil (fun _ _ _ => by exact trivial) rfl fun _ => ?_
    refine ops_nil (fin_inv rfl (any_next (fun _ a b => ⟨Vw.sat.sub (a.perm (pf_takeB pf_here pf_here)), b⟩) ?_))
    refine any_one 9 rfl (by kernel_rfl) ?_
    refine ops_calld (first := []) (cap := E.caps) (E.emit (fsub (Fc.a f) (Pc.c x1)) (bothF E.stp E.kof f (List.take i (lat pm (Ky.mk 2 [] (Fc.b f)))) nw) fm Hs_i hS_i) rfl rfl (pf_cons pf_lastB) (fun v _ h => by exact ⟨h.2.2.2.2.2.2.2.2.1, trivial⟩) rfl fun ⟨Hs1, hS1⟩ => ?_
    dsimp only
    refine ops_nil (fin_inv rfl (any_next (fun _ a b => ⟨Vw.sat.sub (a.perm (pf_takeB (pf_app pf_here) pf_last)), b⟩) ?_))
    refine any_done (by kernel_rfl) ?_
    refine fin_next rfl (run_region (ops_val (yld_arith rfl rfl rfl (wrap64 (by omega) (by omega))) rfl ?_))
    refine ops_val (yld_move rfl) rfl (ops_nil (fin_inv rfl ?_))
    exact ok_again ⟨(i + 1, Hs1), hlx1, (by rw [both_step hx1]; first | (rw [if_pos ⟨by assumption, by assumption⟩]; exact hS1) | (rw [if_neg (fun q => absurd q.1 (by assumption))]; exact hS1) | (rw [if_neg (fun q => absurd q.2 (by assumption))]; exact hS1))⟩ (by dsimp only; omega) ⟨rfl, rfl, rfl, rfl, rfl, trivial⟩ (pf_takeB (pf_app (pf_cons pf_here)) pf_hereO) (fun v _ h => by exact ⟨h.1, h.2.1, h.2.2.1, h.2.2.2.1, h.2.2.2.2.1, h.2.2.2.2.2.1, h.2.2.2.2.2.2.1, h.2.2.2.2.2.2.2.1, h.2.2.2.2.2.2.2.2.1, trivial⟩)
theorem value_c (B : EngB) (E : Emt Tryz.prog 41) (A : EngA) (pm : List (Ky × Pc)) (x : Ix) (f : Fc) (nw fm : List Fc) (Hs : Hp) (hS : E.St nw fm Hs) (hpl : ∀ k, (lat pm k).length ≤ 1000000000) (hxl : ∀ k, (lat x.above k).length ≤ 1000000000 ∧ (lat x.under k).length ≤ 1000000000) (hyl : ∀ k, (lat x.frm k).length ≤ 1000000000 ∧ (lat x.into k).length ≤ 1000000000 ∧ (lat x.ranges k).length ≤ 1000000000 ∧ (lat x.firms k).length ≤ 1000000000) : Tri Tryz.prog 105 #[.pointer (some ⟨B.g, 0, none⟩), Fc.val f] Hs [gF B E, pF B pm A, aF B x A, uF B x A, oF B x A, iF B x A, rF B x A, sF B x A, E.ef] (fun _ : {H' : Hp // E.St (Prod.fst (valueF E.stp E.kof f (lat pm (Ky.mk 8 [] (Fc.b f))) (nw, fm))) (Prod.snd (valueF E.stp E.kof f (lat pm (Ky.mk 8 [] (Fc.b f))) (nw, fm))) H'} => .tuple #[]) (fun y => y.1) (fun _ => []) := by
 refine tri_of_body Tryz.func105 rfl rfl Tryz.ntmps105 rfl fun v0 => ?_
 refine run_seq (run_region (ops_box rfl rfl fun b1 => ?_))
 refine ops_nil (fin_next rfl (run_seq ?_))
 refine run_draw' (by kernel_rfl) ?_
 refine any_sq 0 [0, 1, 2, 3, 4, 5, 6, 7, 8, 9] (by kernel_rfl) (fun _ a b => ⟨a, b⟩) ?_
 refine sq_val rfl (yld_move rfl) rfl ?_
 refine sq_val rfl (yld_nilck rfl) rfl ?_
 refine sq_val rfl (yld_field Tryz.runUnderlying94 rfl rfl rfl Tryz.sizeOf87) rfl ?_
 refine sq_val rfl (yld_loadO Tryz.isAgg87 rfl (fun v _ h => by exact h.1) rfl) rfl ?_
 refine sq_val rfl (yld_field Tryz.runUnderlying41 rfl rfl rfl Tryz.sizeOf9) rfl ?_
 refine sq_val rfl (yld_load 0 Tryz.isAgg9 rfl rfl rfl) rfl ?_
 refine sq_val rfl (yld_struct strt171 rfl rfl) rfl ?_
 refine sq_val rfl (yld_lookF (k := (Ky.mk 8 [] (Fc.b f))) (adr := A.p) keyKy Tryz.runUnderlying87 Tryz.zeroValue22 rfl rfl (fun v _ h => by exact h.2.1)) rfl ?_
 refine sq_val rfl (yld_lenS Tryz.runUnderlying22 rfl) rfl ?_
 refine sq_val rfl (yld_move rfl) rfl ?_
 refine sq_nil ?_
 refine any_done (by kernel_rfl) ?_
 refine fin_next rfl (run_block (ok_fr [(0, .pointer (some ⟨B.g, 0, none⟩)), (3, .pointer (some ⟨b1, 0, none⟩)), (14, .slice (Prod.fst (A.p (Ky.mk 8 [] (Fc.b f)))) (List.length (lat pm (Ky.mk 8 [] (Fc.b f)))) (Prod.snd (A.p (Ky.mk 8 [] (Fc.b f))))), (15, .int .i64 (List.length (lat pm (Ky.mk 8 [] (Fc.b f))) : Int)), (16, .int .i64 ((0 : Nat) : Int))] ⟨rfl, rfl, rfl, rfl, rfl, trivial⟩ ?_))
 refine ok_weak (H' := ((b1, .cells #[.int .i64 (Fc.kind f), str (Fc.a f), str (Fc.b f), str (Fc.r f), .int .i64 (Fc.lo f), .int .i64 (Fc.hi f)] 41 (0, 0)) :: Hs)) (Γ' := [gF B E, pF B pm A, aF B x A, uF B x A, oF B x A, iF B x A, rF B x A, sF B x A, E.ef]) (pf_takeB pf_here pf_end) (fun v _ h => by exact ⟨h.1, h.2.1, h.2.2.1, h.2.2.2.1, h.2.2.2.2.1, h.2.2.2.2.2.1, h.2.2.2.2.2.2.1, h.2.2.2.2.2.2.2.1, h.2.2.2.2.2.2.2.2.1, trivial⟩) ?_
 refine run_loop (ι := {y : Nat × Hp // y.1 ≤ List.length (lat pm (Ky.mk 8 [] (Fc.b f))) ∧ E.St (Prod.fst (valueF E.stp E.kof f (List.take y.1 (lat pm (Ky.mk 8 [] (Fc.b f)))) (nw, fm))) (Prod.snd (valueF E.stp E.kof f (List.take y.1 (lat pm (Ky.mk 8 [] (Fc.b f)))) (nw, fm))) y.2}) (fun y => [(0, .pointer (some ⟨B.g, 0, none⟩)), (3, .pointer (some ⟨b1, 0, none⟩)), (14, .slice (Prod.fst (A.p (Ky.mk 8 [] (Fc.b f)))) (List.length (lat pm (Ky.mk 8 [] (Fc.b f)))) (Prod.snd (A.p (Ky.mk 8 [] (Fc.b f))))), (15, .int .i64 (List.length (lat pm (Ky.mk 8 [] (Fc.b f))) : Int)), (16, .int .i64 (y.1.1 : Int))]) (fun y => ((b1, .cells #[.int .i64 (Fc.kind f), str (Fc.a f), str (Fc.b f), str (Fc.r f), .int .i64 (Fc.lo f), .int .i64 (Fc.hi f)] 41 (0, 0)) :: y.1.2)) (fun y => [gF B E, pF B pm A, aF B x A, uF B x A, oF B x A, iF B x A, rF B x A, sF B x A, E.ef]) (fun y => List.length (lat pm (Ky.mk 8 [] (Fc.b f))) - y.1.1) ⟨((0 : Nat), Hs), by simp, by exact hS⟩ ?_
 rintro ⟨⟨i, Hs_i⟩, hi_i, hS_i⟩
 dsimp only at hi_i hS_i ⊢
 refine ok_fr [(0, .pointer (some ⟨B.g, 0, none⟩)), (3, .pointer (some ⟨b1, 0, none⟩)), (14, .slice (Prod.fst (A.p (Ky.mk 8 [] (Fc.b f)))) (List.length (lat pm (Ky.mk 8 [] (Fc.b f)))) (Prod.snd (A.p (Ky.mk 8 [] (Fc.b f))))), (15, .int .i64 (List.length (lat pm (Ky.mk 8 [] (Fc.b f))) : Int)), (16, .int .i64 (i : Int))] ⟨rfl, rfl, rfl, rfl, rfl, trivial⟩ ?_
 have hb_i := hpl (Ky.mk 8 [] (Fc.b f))
 refine run_seq (run_region (ops_valB (yld_lss rfl rfl) rfl fun r1 hr1 => ?_))
 refine ops_nil (fin_next rfl (run_seq ?_))
 cases r1
 ·
  replace hr1 := of_decide_eq_false hr1
  refine run_cond_f rfl (run_exit rfl (fin_end rfl ?_))
  exact end0 Tryz.results105 ⟨Hs_i, by rw [List.take_of_length_le (by omega)] at hS_i; exact hS_i⟩ rfl pf_lastB (fun _ _ _ => trivial)
 ·
  replace hr1 := of_decide_eq_true hr1
  have hlx1 : i < List.length (lat pm (Ky.mk 8 [] (Fc.b f))) := by omega
  obtain ⟨x1, hx1⟩ : ∃ e0, (lat pm (Ky.mk 8 [] (Fc.b f)))[i]? = some e0 := ⟨_, List.getElem?_eq_getElem hlx1⟩
  have hmx1 : x1 ∈ (lat pm (Ky.mk 8 [] (Fc.b f))) := List.mem_of_getElem? hx1
  refine run_cond_t rfl (run_skip (fin_next rfl (run_seq (run_block (run_seq (run_region (ops_val (yld_indexR Tryz.runUnderlying22 Tryz.sizeOf47 rfl rfl (fun v _ h => row_adr (n := 10) Pc.cells_len (by decide) (by exact (mlF_row h.2.1 (Ky.mk 8 [] (Fc.b f)))) hx1) (by omega) (by first | omega | (simp; done))) rfl ?_)))))))
  refine ops_val (yld_loadRS (ad := (Prod.fst (A.p (Ky.mk 8 [] (Fc.b f))))) (us := Pc.cells x1) Tryz.isAgg47 Tryz.sizeOf47 rfl (fun v _ h => by exact (mlF_row h.2.1 (Ky.mk 8 [] (Fc.b f)))) (Pc.cells_len _) (row_cells Pc.cells_len hx1)) rfl ?_
  refine ops_alloc Tryz.zeroValue47 rfl fun b2 => ?_
  refine ops_store 0 Tryz.sizeOf47 rfl rfl rfl rfl rfl rfl ?_
  refine ops_nil (fin_next rfl (run_seq (run_region (ops_val (yld_field Tryz.runUnderlying41 rfl rfl rfl Tryz.sizeOf9) rfl ?_))))
  refine ops_val (yld_load 1 Tryz.isAgg9 rfl rfl rfl) rfl ?_
  refine ops_val (yld_field Tryz.runUnderlying47 rfl rfl rfl Tryz.sizeOf9) rfl ?_
  refine ops_val (yld_load 0 Tryz.isAgg9 rfl rfl rfl) rfl ?_
  refine ops_val (yld_field Tryz.runUnderlying47 rfl rfl rfl Tryz.sizeOf3) rfl ?_
  refine ops_val (yld_load 0 Tryz.isAgg3 rfl rfl rfl) rfl ?_
  refine ops_val (yld_field Tryz.runUnderlying47 rfl rfl rfl Tryz.sizeOf3) rfl ?_
  refine ops_val (yld_load 0 Tryz.isAgg3 rfl rfl rfl) rfl ?_
  refine ops_call (span_c (Fc.a f) (Pc.r x1) (Pc.lo x1) (Pc.hi x1)) rfl pf_nil (fun _ _ _ => by exact trivial) rfl fun _ => ?_
  refine ops_alloc Tryz.zeroValue41 rfl fun b3 => ?_
  refine ops_store 0 Tryz.sizeOf41 rfl rfl rfl rfl rfl rfl ?_
  refine ops_nil (fin_next rfl (run_seq (run_seq ?_)))
  refine run_draw' (by kernel_rfl) ?_
  refine any_sq 0 [0, 1, 2, 3, 4, 5, 6] (by kernel_rfl) (fun _ a b => ⟨a, b⟩) ?_
  refine sq_val rfl (yld_move rfl) rfl ?_
  refine sq_val rfl (yld_nilck rfl) rfl ?_
  refine sq_val rfl (yld_field Tryz.runUnderlying94 rfl rfl rfl Tryz.sizeOf88) rfl ?_
  refine sq_val rfl (yld_loadO Tryz.isAgg88 rfl (fun v _ h => by exact h.1) rfl) rfl ?_
  refine sq_val rfl (yld_loadS 0 Tryz.isAgg41 Tryz.sizeOf41 rfl rfl rfl) rfl ?_
  refine sq_valB rfl (yld_known (f := (fspan (Fc.a f) (Pc.r x1) (Pc.lo x1) (Pc.hi x1))) hS_i keyFc Tryz.runUnderlying88 Tryz.zeroValue4 rfl rfl (pf_cons (pf_cons pf_lastB))) rfl fun r2 hr2 => ?_
  refine sq_val rfl (yld_not rfl) rfl ?_
  refine sq_nil ?_
  refine any_done (by kernel_rfl) ?_
  refine fin_next rfl ?_
  cases r2
  ·
   replace hr2 := of_decide_eq_false hr2
   refine run_cond_t rfl ?_
   refine run_drawH ((b3, .cells #[.int .i64 (Fc.kind (fspan (Fc.a f) (Pc.r x1) (Pc.lo x1) (Pc.hi x1))), str (Fc.a (fspan (Fc.a f) (Pc.r x1) (Pc.lo x1) (Pc.hi x1))), str (Fc.b (fspan (Fc.a f) (Pc.r x1) (Pc.lo x1) (Pc.hi x1))), str (Fc.r (fspan (Fc.a f) (Pc.r x1) (Pc.lo x1) (Pc.hi x1))), .int .i64 (Fc.lo (fspan (Fc.a f) (Pc.r x1) (Pc.lo x1) (Pc.hi x1))), .int .i64 (Fc.hi (fspan (Fc.a f) (Pc.r x1) (Pc.lo x1) (Pc.hi x1)))] 41 (0, 0)) :: ((b2, .cells #[.int .i64 (Pc.kind x1), str (Pc.a x1), str (Pc.b x1), str (Pc.c x1), str (Pc.r x1), str (Pc.s x1), str (Pc.t x1), .int .i64 (Pc.lo x1), .int .i64 (Pc.hi x1), .int .i64 (Pc.frm x1)] 47 (0, 0)) :: ((b1, .cells #[.int .i64 (Fc.kind f), str (Fc.a f), str (Fc.b f), str (Fc.r f), .int .i64 (Fc.lo f), .int .i64 (Fc.hi f)] 41 (0, 0)) :: []))) (by kernel_rfl) ?_
   refine any_sq 1 [0, 1, 2, 3, 4] (by kernel_rfl) (fun _ a b => ⟨Vw.sat.sub (a.perm (pf_takeB pf_here (pf_takeB pf_here pf_here))), b⟩) ?_
   refine sq_val rfl (yld_move rfl) rfl ?_
   refine sq_val rfl (yld_nilck rfl) rfl ?_
   refine sq_val rfl (yld_field Tryz.runUnderlying94 rfl rfl rfl Tryz.sizeOf88) rfl ?_
   refine sq_val rfl (yld_loadO Tryz.isAgg88 rfl (fun v _ h => by exact h.1) rfl) rfl ?_
   refine sq_val rfl (yld_loadS 0 Tryz.isAgg41 Tryz.sizeOf41 rfl rfl rfl) rfl ?_
   refine sq_nil ?_
   refine any_one 5 rfl (by kernel_rfl) ?_
   refine ops_setf (f := (fspan (Fc.a f) (Pc.r x1) (Pc.lo x1) (Pc.hi x1))) hS_i keyFc (.inr rfl) Tryz.runUnderlying88 rfl rfl rfl (pf_cons (pf_cons pf_lastB)) fun Hs1 hS1 => ?_
   refine ops_nil (fin_inv rfl (any_next (fun _ a b => ⟨Vw.sat.sub (a.perm (pf_takeB (pf_app pf_here) (pf_takeB (pf_app pf_here) pf_last))), b⟩) ?_))
   refine any_done (by kernel_rfl) ?_
   refine fin_next rfl ?_
   refine run_drawH ((b3, .cells #[.int .i64 (Fc.kind (fspan (Fc.a f) (Pc.r x1) (Pc.lo x1) (Pc.hi x1))), str (Fc.a (fspan (Fc.a f) (Pc.r x1) (Pc.lo x1) (Pc.hi x1))), str (Fc.b (fspan (Fc.a f) (Pc.r x1) (Pc.lo x1) (Pc.hi x1))), str (Fc.r (fspan (Fc.a f) (Pc.r x1) (Pc.lo x1) (Pc.hi x1))), .int .i64 (Fc.lo (fspan (Fc.a f) (Pc.r x1) (Pc.lo x1) (Pc.hi x1))), .int .i64 (Fc.hi (fspan (Fc.a f) (Pc.r x1) (Pc.lo x1) (Pc.hi x1)))] 41 (0, 0)) :: ((b2, .cells #[.int .i64 (Pc.kind x1), str (Pc.a x1), str (Pc.b x1), str (Pc.c x1), str (Pc.r x1), str (Pc.s x1), str (Pc.t x1), .int .i64 (Pc.lo x1), .int .i64 (Pc.hi x1), .int .i64 (Pc.frm x1)] 47 (0, 0)) :: ((b1, .cells #[.int .i64 (Fc.kind f), str (Fc.a f), str (Fc.b f), str (Fc.r f), .int .i64 (Fc.lo f), .int .i64 (Fc.hi f)] 41 (0, 0)) :: []))) (by kernel_rfl) ?_
   refine any_sq 1 [0, 1, 2, 3, 4] (by kernel_rfl) (fun _ a b => ⟨Vw.sat.sub (a.perm (pf_takeB (pf_app pf_here) (pf_takeB (pf_app pf_here) pf_last))), b⟩) ?_
   refine sq_val rfl (yld_move rfl) rfl ?_
   refine sq_val rfl (yld_nilck rfl) rfl ?_
   refine sq_val rfl (yld_field Tryz.runUnderlying94 rfl rfl rfl Tryz.sizeOf89) rfl ?_
   refine sq_val rfl (yld_loadO Tryz.isAgg89 rfl (fun v _ h => by exact h.1) rfl) rfl ?_
   refine sq_val rfl (yld_loadS 0 Tryz.isAgg41 Tryz.sizeOf41 rfl rfl rfl) rfl ?_
   refine sq_nil ?_
   refine any_one 5 rfl (by kernel_rfl) ?_
   refine ops_calld (first := []) (cap := E.caps) (E.emit (fspan (Fc.a f) (Pc.r x1) (Pc.lo x1) (Pc.hi x1)) (Prod.fst (valueF E.stp E.kof f (List.take i (lat pm (Ky.mk 8 [] (Fc.b f)))) (nw, fm))) ((fspan (Fc.a f) (Pc.r x1) (Pc.lo x1) (Pc.hi x1)) :: (Prod.snd (valueF E.stp E.kof f (List.take i (lat pm (Ky.mk 8 [] (Fc.b f)))) (nw, fm)))) Hs1 hS1) rfl rfl pf_hereO (fun v _ h => by exact ⟨h.2.2.2.2.2.2.2.2.1, trivial⟩) rfl fun ⟨Hs2, hS2⟩ => ?_
   dsimp only
   refine ops_nil (fin_inv rfl (any_next (fun _ a b => ⟨Vw.sat.sub (a.perm (pf_takeB (pf_app pf_here) (pf_takeB (pf_app pf_here) pf_last))), b⟩) ?_))
   refine any_done (by kernel_rfl) ?_
   refine fin_next rfl (run_region (ops_val (yld_arith rfl rfl rfl (wrap64 (by omega) (by omega))) rfl ?_))
   refine ops_val (yld_move rfl) rfl (ops_nil (fin_inv rfl ?_))
   exact ok_again ⟨(i + 1, Hs2), hlx1, (by rw [value_step hx1]; dsimp only; first | (rw [if_pos (by assumption)]; exact hS2) | (rw [if_neg (by assumption)]; exact hS2))⟩ (by dsimp only; omega) ⟨rfl, rfl, rfl, rfl, rfl, trivial⟩ (pf_takeB (pf_app (pf_cons (pf_cons pf_here))) pf_hereO) (fun v _ h => by exact ⟨h.1, h.2.1, h.2.2.1, h.2.2.2.1, h.2.2.2.2.1, h.2.2.2.2.2.1, h.2.2.2.2.2.2.1, h.2.2.2.2.2.2.2.1, h.2.2.2.2.2.2.2.2.1, trivial⟩)
  ·
   replace hr2 := of_decide_eq_true hr2
   refine run_cond_f rfl (run_skip (fin_next rfl ?_))
   refine run_drawH ((b3, .cells #[.int .i64 (Fc.kind (fspan (Fc.a f) (Pc.r x1) (Pc.lo x1) (Pc.hi x1))), str (Fc.a (fspan (Fc.a f) (Pc.r x1) (Pc.lo x1) (Pc.hi x1))), str (Fc.b (fspan (Fc.a f) (Pc.r x1) (Pc.lo x1) (Pc.hi x1))), str (Fc.r (fspan (Fc.a f) (Pc.r x1) (Pc.lo x1) (Pc.hi x1))), .int .i64 (Fc.lo (fspan (Fc.a f) (Pc.r x1) (Pc.lo x1) (Pc.hi x1))), .int .i64 (Fc.hi (fspan (Fc.a f) (Pc.r x1) (Pc.lo x1) (Pc.hi x1)))] 41 (0, 0)) :: ((b2, .cells #[.int .i64 (Pc.kind x1), str (Pc.a x1), str (Pc.b x1), str (Pc.c x1), str (Pc.r x1), str (Pc.s x1), str (Pc.t x1), .int .i64 (Pc.lo x1), .int .i64 (Pc.hi x1), .int .i64 (Pc.frm x1)] 47 (0, 0)) :: ((b1, .cells #[.int .i64 (Fc.kind f), str (Fc.a f), str (Fc.b f), str (Fc.r f), .int .i64 (Fc.lo f), .int .i64 (Fc.hi f)] 41 (0, 0)) :: []))) (by kernel_rfl) ?_
   refine any_sq 1 [0, 1, 2, 3, 4] (by kernel_rfl) (fun _ a b => ⟨Vw.sat.sub (a.perm (pf_takeB pf_here (pf_takeB pf_here pf_here))), b⟩) ?_
   refine sq_val rfl (yld_move rfl) rfl ?_
   refine sq_val rfl (yld_nilck rfl) rfl ?_
   refine sq_val rfl (yld_field Tryz.runUnderlying94 rfl rfl rfl Tryz.sizeOf89) rfl ?_
   refine sq_val rfl (yld_loadO Tryz.isAgg89 rfl (fun v _ h => by exact h.1) rfl) rfl ?_
   refine sq_val rfl (yld_loadS 0 Tryz.isAgg41 Tryz.sizeOf41 rfl rfl rfl) rfl ?_
   refine sq_nil ?_
   refine any_one 5 rfl (by kernel_rfl) ?_
   refine ops_calld (first := []) (cap := E.caps) (E.emit (fspan (Fc.a f) (Pc.r x1) (Pc.lo x1) (Pc.hi x1)) (Prod.fst (valueF E.stp E.kof f (List.take i (lat pm (Ky.mk 8 [] (Fc.b f)))) (nw, fm))) (Prod.snd (valueF E.stp E.kof f (List.take i (lat pm (Ky.mk 8 [] (Fc.b f)))) (nw, fm))) Hs_i hS_i) rfl rfl (pf_cons (pf_cons pf_lastB)) (fun v _ h => by exact ⟨h.2.2.2.2.2.2.2.2.1, trivial⟩) rfl fun ⟨Hs3, hS3⟩ => ?_
   dsimp only
   refine ops_nil (fin_inv rfl (any_next (fun _ a b => ⟨Vw.sat.sub (a.perm (pf_takeB (pf_app pf_here) (pf_takeB (pf_app pf_here) pf_last))), b⟩) ?_))
   refine any_done (by kernel_rfl) ?_
   refine fin_next rfl (run_region (ops_val (yld_arith rfl rfl rfl (wrap64 (by omega) (by omega))) rfl ?_))
   refine ops_val (yld_move rfl) rfl (ops_nil (fin_inv rfl ?_))
   exact ok_again ⟨(i + 1, Hs3), hlx1, (by rw [value_step hx1]; dsimp only; first | (rw [if_pos (by assumption)]; exact hS3) | (rw [if_neg (by assumption)]; exact hS3))⟩ (by dsimp only; omega) ⟨rfl, rfl, rfl, rfl, rfl, trivial⟩ (pf_takeB (pf_app (pf_cons (pf_cons pf_here))) pf_hereO) (fun v _ h => by exact ⟨h.1, h.2.1, h.2.2.1, h.2.2.2.1, h.2.2.2.2.1, h.2.2.2.2.2.1, h.2.2.2.2.2.2.1, h.2.2.2.2.2.2.2.1, h.2.2.2.2.2.2.2.2.1, trivial⟩)
theorem fillAtom_c (B : EngB) (E : Emt Tryz.prog 41) (A : EngA) (pm : List (Ky × Pc)) (x : Ix) (f : Fc) (nw fm : List Fc) (Hs : Hp) (hS : E.St nw fm Hs) (hpl : ∀ k, (lat pm k).length ≤ 1000000000) (hxl : ∀ k, (lat x.above k).length ≤ 1000000000 ∧ (lat x.under k).length ≤ 1000000000) (hyl : ∀ k, (lat x.frm k).length ≤ 1000000000 ∧ (lat x.into k).length ≤ 1000000000 ∧ (lat x.ranges k).length ≤ 1000000000 ∧ (lat x.firms k).length ≤ 1000000000) : Tri Tryz.prog 103 #[.pointer (some ⟨B.g, 0, none⟩), Fc.val f] Hs [gF B E, pF B pm A, aF B x A, uF B x A, oF B x A, iF B x A, rF B x A, sF B x A, E.ef] (fun _ : {H' : Hp // E.St (emits E.stp (fillAtomL pm x f) nw) fm H'} => .tuple #[]) (fun y => y.1) (fun _ => []) := by
 refine tri_of_body Tryz.func103 rfl rfl Tryz.ntmps103 rfl fun v0 => ?_
 refine run_seq (run_region (ops_box rfl rfl fun b1 => ?_))
 refine ops_nil (fin_next rfl (run_seq ?_))
 refine run_draw' (by kernel_rfl) ?_
 refine any_sq 0 [0, 1, 2, 3, 4, 5, 6, 7, 8, 9] (by kernel_rfl) (fun _ a b => ⟨a, b⟩) ?_
 refine sq_val rfl (yld_move rfl) rfl ?_
 refine sq_val rfl (yld_nilck rfl) rfl ?_
 refine sq_val rfl (yld_field Tryz.runUnderlying94 rfl rfl rfl Tryz.sizeOf87) rfl ?_
 refine sq_val rfl (yld_loadO Tryz.isAgg87 rfl (fun v _ h => by exact h.1) rfl) rfl ?_
 refine sq_val rfl (yld_field Tryz.runUnderlying41 rfl rfl rfl Tryz.sizeOf9) rfl ?_
 refine sq_val rfl (yld_load 0 Tryz.isAgg9 rfl rfl rfl) rfl ?_
 refine sq_val rfl (yld_struct strt171 rfl rfl) rfl ?_
 refine sq_val rfl (yld_lookF (k := (Ky.mk 4 [] (Fc.b f))) (adr := A.p) keyKy Tryz.runUnderlying87 Tryz.zeroValue22 rfl rfl (fun v _ h => by exact h.2.1)) rfl ?_
 refine sq_val rfl (yld_lenS Tryz.runUnderlying22 rfl) rfl ?_
 refine sq_val rfl (yld_move rfl) rfl ?_
 refine sq_nil ?_
 refine any_done (by kernel_rfl) ?_
 refine fin_next rfl (run_block (ok_fr [(0, .pointer (some ⟨B.g, 0, none⟩)), (3, .pointer (some ⟨b1, 0, none⟩)), (15, .slice (Prod.fst (A.p (Ky.mk 4 [] (Fc.b f)))) (List.length (lat pm (Ky.mk 4 [] (Fc.b f)))) (Prod.snd (A.p (Ky.mk 4 [] (Fc.b f))))), (16, .int .i64 (List.length (lat pm (Ky.mk 4 [] (Fc.b f))) : Int)), (17, .int .i64 ((0 : Nat) : Int))] ⟨rfl, rfl, rfl, rfl, rfl, trivial⟩ ?_))
 refine ok_weak (H' := ((b1, .cells #[.int .i64 (Fc.kind f), str (Fc.a f), str (Fc.b f), str (Fc.r f), .int .i64 (Fc.lo f), .int .i64 (Fc.hi f)] 41 (0, 0)) :: Hs)) (Γ' := [gF B E, pF B pm A, aF B x A, uF B x A, oF B x A, iF B x A, rF B x A, sF B x A, E.ef]) (pf_takeB pf_here pf_end) (fun v _ h => by exact ⟨h.1, h.2.1, h.2.2.1, h.2.2.2.1, h.2.2.2.2.1, h.2.2.2.2.2.1, h.2.2.2.2.2.2.1, h.2.2.2.2.2.2.2.1, h.2.2.2.2.2.2.2.2.1, trivial⟩) ?_
 refine run_loop (ι := {y : Nat × Hp // y.1 ≤ List.length (lat pm (Ky.mk 4 [] (Fc.b f))) ∧ E.St (emits E.stp (List.flatMap (fun y => List.map (fun a => fsub a (Pc.c y)) (lat x.into (Fc.a f, Pc.r y))) (List.take y.1 (lat pm (Ky.mk 4 [] (Fc.b f))))) nw) fm y.2}) (fun y => [(0, .pointer (some ⟨B.g, 0, none⟩)), (3, .pointer (some ⟨b1, 0, none⟩)), (15, .slice (Prod.fst (A.p (Ky.mk 4 [] (Fc.b f)))) (List.length (lat pm (Ky.mk 4 [] (Fc.b f)))) (Prod.snd (A.p (Ky.mk 4 [] (Fc.b f))))), (16, .int .i64 (List.length (lat pm (Ky.mk 4 [] (Fc.b f))) : Int)), (17, .int .i64 (y.1.1 : Int))]) (fun y => ((b1, .cells #[.int .i64 (Fc.kind f), str (Fc.a f), str (Fc.b f), str (Fc.r f), .int .i64 (Fc.lo f), .int .i64 (Fc.hi f)] 41 (0, 0)) :: y.1.2)) (fun y => [gF B E, pF B pm A, aF B x A, uF B x A, oF B x A, iF B x A, rF B x A, sF B x A, E.ef]) (fun y => List.length (lat pm (Ky.mk 4 [] (Fc.b f))) - y.1.1) ⟨((0 : Nat), Hs), by simp, by exact hS⟩ ?_
 rintro ⟨⟨i, Hs_i⟩, hi_i, hS_i⟩
 dsimp only at hi_i hS_i ⊢
 refine ok_fr [(0, .pointer (some ⟨B.g, 0, none⟩)), (3, .pointer (some ⟨b1, 0, none⟩)), (15, .slice (Prod.fst (A.p (Ky.mk 4 [] (Fc.b f)))) (List.length (lat pm (Ky.mk 4 [] (Fc.b f)))) (Prod.snd (A.p (Ky.mk 4 [] (Fc.b f))))), (16, .int .i64 (List.length (lat pm (Ky.mk 4 [] (Fc.b f))) : Int)), (17, .int .i64 (i : Int))] ⟨rfl, rfl, rfl, rfl, rfl, trivial⟩ ?_
 have hb_i := hpl (Ky.mk 4 [] (Fc.b f))
 refine run_seq (run_region (ops_valB (yld_lss rfl rfl) rfl fun r1 hr1 => ?_))
 refine ops_nil (fin_next rfl (run_seq ?_))
 cases r1
 ·
  replace hr1 := of_decide_eq_false hr1
  refine run_cond_f rfl (run_exit rfl (fin_end rfl ?_))
  exact end0 Tryz.results103 ⟨Hs_i, by unfold fillAtomL; rw [List.take_of_length_le (by omega)] at hS_i; exact hS_i⟩ rfl pf_lastB (fun _ _ _ => trivial)
 ·
  replace hr1 := of_decide_eq_true hr1
  have hlx1 : i < List.length (lat pm (Ky.mk 4 [] (Fc.b f))) := by omega
  obtain ⟨x1, hx1⟩ : ∃ e0, (lat pm (Ky.mk 4 [] (Fc.b f)))[i]? = some e0 := ⟨_, List.getElem?_eq_getElem hlx1⟩
  have hmx1 : x1 ∈ (lat pm (Ky.mk 4 [] (Fc.b f))) := List.mem_of_getElem? hx1
  refine run_cond_t rfl (run_skip (fin_next rfl (run_seq (run_block (run_seq (run_region (ops_val (yld_indexR Tryz.runUnderlying22 Tryz.sizeOf47 rfl rfl (fun v _ h => row_adr (n := 10) Pc.cells_len (by decide) (by exact (mlF_row h.2.1 (Ky.mk 4 [] (Fc.b f)))) hx1) (by omega) (by first | omega | (simp; done))) rfl ?_)))))))
  refine ops_val (yld_loadRS (ad := (Prod.fst (A.p (Ky.mk 4 [] (Fc.b f))))) (us := Pc.cells x1) Tryz.isAgg47 Tryz.sizeOf47 rfl (fun v _ h => by exact (mlF_row h.2.1 (Ky.mk 4 [] (Fc.b f)))) (Pc.cells_len _) (row_cells Pc.cells_len hx1)) rfl ?_
  refine ops_alloc Tryz.zeroValue47 rfl fun b2 => ?_
  refine ops_store 0 Tryz.sizeOf47 rfl rfl rfl rfl rfl rfl ?_
  refine ops_nil (fin_next rfl (run_seq ?_))
  refine run_draw' (by kernel_rfl) ?_
  refine any_sq 0 [0, 1, 2, 3, 4, 5, 6, 7, 8, 9, 10, 11] (by kernel_rfl) (fun _ a b => ⟨a, b⟩) ?_
  refine sq_val rfl (yld_move rfl) rfl ?_
  refine sq_val rfl (yld_nilck rfl) rfl ?_
  refine sq_val rfl (yld_field Tryz.runUnderlying94 rfl rfl rfl Tryz.sizeOf91) rfl ?_
  refine sq_val rfl (yld_loadO Tryz.isAgg91 rfl (fun v _ h => by exact h.1) rfl) rfl ?_
  refine sq_val rfl (yld_field Tryz.runUnderlying41 rfl rfl rfl Tryz.sizeOf9) rfl ?_
  refine sq_val rfl (yld_load 1 Tryz.isAgg9 rfl rfl rfl) rfl ?_
  refine sq_val rfl (yld_field Tryz.runUnderlying47 rfl rfl rfl Tryz.sizeOf9) rfl ?_
  refine sq_val rfl (yld_load 0 Tryz.isAgg9 rfl rfl rfl) rfl ?_
  refine sq_val rfl (yld_struct strt145 rfl rfl) rfl ?_
  refine sq_val rfl (yld_lookF (k := ((Fc.a f), (Pc.r x1))) (adr := A.i) keySpot Tryz.runUnderlying91 Tryz.zeroValue25 rfl rfl (fun v _ h => by exact h.2.2.2.2.2.1)) rfl ?_
  refine sq_val rfl (yld_lenS Tryz.runUnderlying25 rfl) rfl ?_
  refine sq_val rfl (yld_move rfl) rfl ?_
  refine sq_nil ?_
  refine any_done (by kernel_rfl) ?_
  refine fin_next rfl (run_block (ok_fr [(0, .pointer (some ⟨B.g, 0, none⟩)), (3, .pointer (some ⟨b1, 0, none⟩)), (15, .slice (Prod.fst (A.p (Ky.mk 4 [] (Fc.b f)))) (List.length (lat pm (Ky.mk 4 [] (Fc.b f)))) (Prod.snd (A.p (Ky.mk 4 [] (Fc.b f))))), (16, .int .i64 (List.length (lat pm (Ky.mk 4 [] (Fc.b f))) : Int)), (17, .int .i64 (i : Int)), (5, .pointer (some ⟨b2, 0, none⟩)), (30, .slice (Prod.fst (A.i ((Fc.a f), (Pc.r x1)))) (List.length (lat x.into ((Fc.a f), (Pc.r x1)))) (Prod.snd (A.i ((Fc.a f), (Pc.r x1))))), (31, .int .i64 (List.length (lat x.into ((Fc.a f), (Pc.r x1))) : Int)), (32, .int .i64 ((0 : Nat) : Int))] ⟨rfl, rfl, rfl, rfl, rfl, rfl, rfl, rfl, rfl, trivial⟩ ?_))
  refine ok_weak (H' := ((b2, .cells #[.int .i64 (Pc.kind x1), str (Pc.a x1), str (Pc.b x1), str (Pc.c x1), str (Pc.r x1), str (Pc.s x1), str (Pc.t x1), .int .i64 (Pc.lo x1), .int .i64 (Pc.hi x1), .int .i64 (Pc.frm x1)] 47 (0, 0)) :: ((b1, .cells #[.int .i64 (Fc.kind f), str (Fc.a f), str (Fc.b f), str (Fc.r f), .int .i64 (Fc.lo f), .int .i64 (Fc.hi f)] 41 (0, 0)) :: Hs_i))) (Γ' := [gF B E, pF B pm A, aF B x A, uF B x A, oF B x A, iF B x A, rF B x A, sF B x A, E.ef]) (pf_takeB pf_here (pf_takeB pf_here pf_end)) (fun v _ h => by exact ⟨h.1, h.2.1, h.2.2.1, h.2.2.2.1, h.2.2.2.2.1, h.2.2.2.2.2.1, h.2.2.2.2.2.2.1, h.2.2.2.2.2.2.2.1, h.2.2.2.2.2.2.2.2.1, trivial⟩) ?_
  refine run_loop (ι := {y : Nat × Hp // y.1 ≤ List.length (lat x.into ((Fc.a f), (Pc.r x1))) ∧ E.St (emits E.stp (List.map (fun a => fsub a (Pc.c x1)) (List.take y.1 (lat x.into ((Fc.a f), (Pc.r x1))))) (emits E.stp (List.flatMap (fun y => List.map (fun a => fsub a (Pc.c y)) (lat x.into (Fc.a f, Pc.r y))) (List.take i (lat pm (Ky.mk 4 [] (Fc.b f))))) nw)) fm y.2}) (fun y => [(0, .pointer (some ⟨B.g, 0, none⟩)), (3, .pointer (some ⟨b1, 0, none⟩)), (15, .slice (Prod.fst (A.p (Ky.mk 4 [] (Fc.b f)))) (List.length (lat pm (Ky.mk 4 [] (Fc.b f)))) (Prod.snd (A.p (Ky.mk 4 [] (Fc.b f))))), (16, .int .i64 (List.length (lat pm (Ky.mk 4 [] (Fc.b f))) : Int)), (17, .int .i64 (i : Int)), (5, .pointer (some ⟨b2, 0, none⟩)), (30, .slice (Prod.fst (A.i ((Fc.a f), (Pc.r x1)))) (List.length (lat x.into ((Fc.a f), (Pc.r x1)))) (Prod.snd (A.i ((Fc.a f), (Pc.r x1))))), (31, .int .i64 (List.length (lat x.into ((Fc.a f), (Pc.r x1))) : Int)), (32, .int .i64 (y.1.1 : Int))]) (fun y => ((b2, .cells #[.int .i64 (Pc.kind x1), str (Pc.a x1), str (Pc.b x1), str (Pc.c x1), str (Pc.r x1), str (Pc.s x1), str (Pc.t x1), .int .i64 (Pc.lo x1), .int .i64 (Pc.hi x1), .int .i64 (Pc.frm x1)] 47 (0, 0)) :: ((b1, .cells #[.int .i64 (Fc.kind f), str (Fc.a f), str (Fc.b f), str (Fc.r f), .int .i64 (Fc.lo f), .int .i64 (Fc.hi f)] 41 (0, 0)) :: y.1.2))) (fun y => [gF B E, pF B pm A, aF B x A, uF B x A, oF B x A, iF B x A, rF B x A, sF B x A, E.ef]) (fun y => List.length (lat x.into ((Fc.a f), (Pc.r x1))) - y.1.1) ⟨((0 : Nat), Hs_i), by simp, by exact hS_i⟩ ?_
  rintro ⟨⟨j, Hs_j⟩, hi_j, hS_j⟩
  dsimp only at hi_j hS_j ⊢
  refine ok_fr [(0, .pointer (some ⟨B.g, 0, none⟩)), (3, .pointer (some ⟨b1, 0, none⟩)), (15, .slice (Prod.fst (A.p (Ky.mk 4 [] (Fc.b f)))) (List.length (lat pm (Ky.mk 4 [] (Fc.b f)))) (Prod.snd (A.p (Ky.mk 4 [] (Fc.b f))))), (16, .int .i64 (List.length (lat pm (Ky.mk 4 [] (Fc.b f))) : Int)), (17, .int .i64 (i : Int)), (5, .pointer (some ⟨b2, 0, none⟩)), (30, .slice (Prod.fst (A.i ((Fc.a f), (Pc.r x1)))) (List.length (lat x.into ((Fc.a f), (Pc.r x1)))) (Prod.snd (A.i ((Fc.a f), (Pc.r x1))))), (31, .int .i64 (List.length (lat x.into ((Fc.a f), (Pc.r x1))) : Int)), (32, .int .i64 (j : Int))] ⟨rfl, rfl, rfl, rfl, rfl, rfl, rfl, rfl, rfl, trivial⟩ ?_
  have hb_j := (hyl ((Fc.a f), (Pc.r x1))).2.1
  refine run_seq (run_region (ops_valB (yld_lss rfl rfl) rfl fun r2 hr2 => ?_))
  refine ops_nil (fin_next rfl (run_seq ?_))
  cases r2
  ·
   replace hr2 := of_decide_eq_false hr2
   refine run_cond_f rfl (run_exit rfl (fin_next rfl (run_region (ops_val (yld_arith rfl rfl rfl (wrap64 (by omega) (by omega))) rfl ?_))))
   refine ops_val (yld_move rfl) rfl (ops_nil (fin_inv rfl ?_))
   exact ok_again ⟨(i + 1, Hs_j), hlx1, (by rw [fmap_step hx1, emits_append]; have e9 : List.take j (lat x.into (Fc.a f, Pc.r x1)) = (lat x.into (Fc.a f, Pc.r x1)) := List.take_of_length_le (by omega); rw [e9] at hS_j; exact hS_j)⟩ (by dsimp only; omega) ⟨rfl, rfl, rfl, rfl, rfl, trivial⟩ (pf_takeB (pf_cons pf_here) pf_lastB) (fun v _ h => by exact ⟨h.1, h.2.1, h.2.2.1, h.2.2.2.1, h.2.2.2.2.1, h.2.2.2.2.2.1, h.2.2.2.2.2.2.1, h.2.2.2.2.2.2.2.1, h.2.2.2.2.2.2.2.2.1, trivial⟩)
  ·
   replace hr2 := of_decide_eq_true hr2
   have hlx2 : j < List.length (lat x.into ((Fc.a f), (Pc.r x1))) := by omega
   obtain ⟨x2, hx2⟩ : ∃ e0, (lat x.into ((Fc.a f), (Pc.r x1)))[j]? = some e0 := ⟨_, List.getElem?_eq_getElem hlx2⟩
   have hmx2 : x2 ∈ (lat x.into ((Fc.a f), (Pc.r x1))) := List.mem_of_getElem? hx2
   refine run_cond_t rfl (run_skip (fin_next rfl (run_seq (run_block (run_seq (run_region (ops_val (yld_indexR Tryz.runUnderlying25 Tryz.sizeOf9 rfl rfl (fun v _ h => row_adr (n := 1) strC_len (by decide) (by exact (mlF_row h.2.2.2.2.2.1 ((Fc.a f), (Pc.r x1)))) hx2) (by omega) (by first | omega | (simp; done))) rfl ?_)))))))
   refine ops_val (yld_loadR (ad := (Prod.fst (A.i ((Fc.a f), (Pc.r x1))))) Tryz.isAgg9 rfl (fun v _ h => by exact (mlF_row h.2.2.2.2.2.1 ((Fc.a f), (Pc.r x1)))) (row_cells strC_len hx2 0 _ rfl)) rfl ?_
   refine ops_val (yld_assign rfl) rfl (ops_nil (fin_next rfl ?_))
   refine run_drawH ((b2, .cells #[.int .i64 (Pc.kind x1), str (Pc.a x1), str (Pc.b x1), str (Pc.c x1), str (Pc.r x1), str (Pc.s x1), str (Pc.t x1), .int .i64 (Pc.lo x1), .int .i64 (Pc.hi x1), .int .i64 (Pc.frm x1)] 47 (0, 0)) :: ((b1, .cells #[.int .i64 (Fc.kind f), str (Fc.a f), str (Fc.b f), str (Fc.r f), .int .i64 (Fc.lo f), .int .i64 (Fc.hi f)] 41 (0, 0)) :: [])) (by kernel_rfl) ?_
   refine any_sq 2 [0, 1, 2, 3, 4, 5, 6] (by kernel_rfl) (fun _ a b => ⟨Vw.sat.sub (a.perm (pf_takeB pf_here pf_here)), b⟩) ?_
   refine sq_val rfl (yld_move rfl) rfl ?_
   refine sq_val rfl (yld_nilck rfl) rfl ?_
   refine sq_val rfl (yld_field Tryz.runUnderlying94 rfl rfl rfl Tryz.sizeOf89) rfl ?_
   refine sq_val rfl (yld_loadO Tryz.isAgg89 rfl (fun v _ h => by exact h.1) rfl) rfl ?_
   refine sq_val rfl (yld_move rfl) rfl ?_
   refine sq_val rfl (yld_field Tryz.runUnderlying47 rfl rfl rfl Tryz.sizeOf9) rfl ?_
   refine sq_val rfl (yld_load 0 Tryz.isAgg9 rfl rfl rfl) rfl ?_
   refine sq_nil ?_
   refine any_one 7 rfl (by kernel_rfl) ?_
   refine ops_call (sub_c x2 (Pc.c x1)) rfl pf_nil (fun _ _ _ => by exact trivial) rfl fun _ => ?_
   refine ops_nil (fin_inv rfl (any_next (fun _ a b => ⟨Vw.sat.sub (a.perm (pf_takeB pf_here pf_here)), b⟩) ?_))
   refine any_one 8 rfl (by kernel_rfl) ?_
   refine ops_calld (first := []) (cap := E.caps) (E.emit (fsub x2 (Pc.c x1)) (emits E.stp (List.map (fun a => fsub a (Pc.c x1)) (List.take j (lat x.into ((Fc.a f), (Pc.r x1))))) (emits E.stp (List.flatMap (fun y => List.map (fun a => fsub a (Pc.c y)) (lat x.into (Fc.a f, Pc.r y))) (List.take i (lat pm (Ky.mk 4 [] (Fc.b f))))) nw)) fm Hs_j hS_j) rfl rfl (pf_cons pf_lastB) (fun v _ h => by exact ⟨h.2.2.2.2.2.2.2.2.1, trivial⟩) rfl fun ⟨Hs1, hS1⟩ => ?_
   dsimp only
   refine ops_nil (fin_inv rfl (any_next (fun _ a b => ⟨Vw.sat.sub (a.perm (pf_takeB (pf_app pf_here) pf_last)), b⟩) ?_))
   refine any_done (by kernel_rfl) ?_
   refine fin_next rfl (run_region (ops_val (yld_arith rfl rfl rfl (wrap64 (by omega) (by omega))) rfl ?_))
   refine ops_val (yld_move rfl) rfl (ops_nil (fin_inv rfl ?_))
   exact ok_again ⟨(j + 1, Hs1), hlx2, (by rw [map_step hx2, emits_append]; exact hS1)⟩ (by dsimp only; omega) ⟨rfl, rfl, rfl, rfl, rfl, rfl, rfl, rfl, rfl, trivial⟩ (pf_takeB (pf_app pf_here) (pf_takeB pf_last pf_end)) (fun v _ h => by exact ⟨h.1, h.2.1, h.2.2.1, h.2.2.2.1, h.2.2.2.2.1, h.2.2.2.2.2.1, h.2.2.2.2.2.2.1, h.2.2.2.2.2.2.2.1, h.2.2.2.2.2.2.2.2.1, trivial⟩)
theorem fillLink_c (B : EngB) (E : Emt Tryz.prog 41) (A : EngA) (pm : List (Ky × Pc)) (x : Ix) (f : Fc) (nw fm : List Fc) (Hs : Hp) (hS : E.St nw fm Hs) (hpl : ∀ k, (lat pm k).length ≤ 1000000000) (hxl : ∀ k, (lat x.above k).length ≤ 1000000000 ∧ (lat x.under k).length ≤ 1000000000) (hyl : ∀ k, (lat x.frm k).length ≤ 1000000000 ∧ (lat x.into k).length ≤ 1000000000 ∧ (lat x.ranges k).length ≤ 1000000000 ∧ (lat x.firms k).length ≤ 1000000000) : Tri Tryz.prog 108 #[.pointer (some ⟨B.g, 0, none⟩), Fc.val f] Hs [gF B E, pF B pm A, aF B x A, uF B x A, oF B x A, iF B x A, rF B x A, sF B x A, E.ef] (fun _ : {H' : Hp // E.St (emits E.stp (fillLinkL pm x f) nw) fm H'} => .tuple #[]) (fun y => y.1) (fun _ => []) := by
 refine tri_of_body Tryz.func108 rfl rfl Tryz.ntmps108 rfl fun v0 => ?_
 refine run_seq (run_region (ops_box rfl rfl fun b1 => ?_))
 refine ops_nil (fin_next rfl (run_seq ?_))
 refine run_draw' (by kernel_rfl) ?_
 refine any_sq 0 [0, 1, 2, 3, 4, 5, 6, 7, 8] (by kernel_rfl) (fun _ a b => ⟨a, b⟩) ?_
 refine sq_val rfl (yld_move rfl) rfl ?_
 refine sq_val rfl (yld_nilck rfl) rfl ?_
 refine sq_val rfl (yld_field Tryz.runUnderlying94 rfl rfl rfl Tryz.sizeOf90) rfl ?_
 refine sq_val rfl (yld_loadO Tryz.isAgg90 rfl (fun v _ h => by exact h.1) rfl) rfl ?_
 refine sq_val rfl (yld_field Tryz.runUnderlying41 rfl rfl rfl Tryz.sizeOf9) rfl ?_
 refine sq_val rfl (yld_load 0 Tryz.isAgg9 rfl rfl rfl) rfl ?_
 refine sq_val rfl (yld_lookF (k := (Fc.b f)) (adr := A.a) keyS Tryz.runUnderlying90 Tryz.zeroValue25 rfl rfl (fun v _ h => by exact h.2.2.1)) rfl ?_
 refine sq_val rfl (yld_lenS Tryz.runUnderlying25 rfl) rfl ?_
 refine sq_val rfl (yld_move rfl) rfl ?_
 refine sq_nil ?_
 refine any_done (by kernel_rfl) ?_
 refine fin_next rfl (run_block (ok_fr [(0, .pointer (some ⟨B.g, 0, none⟩)), (3, .pointer (some ⟨b1, 0, none⟩)), (14, .slice (Prod.fst (A.a (Fc.b f))) (List.length (lat x.above (Fc.b f))) (Prod.snd (A.a (Fc.b f)))), (15, .int .i64 (List.length (lat x.above (Fc.b f)) : Int)), (16, .int .i64 ((0 : Nat) : Int))] ⟨rfl, rfl, rfl, rfl, rfl, trivial⟩ ?_))
 refine ok_weak (H' := ((b1, .cells #[.int .i64 (Fc.kind f), str (Fc.a f), str (Fc.b f), str (Fc.r f), .int .i64 (Fc.lo f), .int .i64 (Fc.hi f)] 41 (0, 0)) :: Hs)) (Γ' := [gF B E, pF B pm A, aF B x A, uF B x A, oF B x A, iF B x A, rF B x A, sF B x A, E.ef]) (pf_takeB pf_here pf_end) (fun v _ h => by exact ⟨h.1, h.2.1, h.2.2.1, h.2.2.2.1, h.2.2.2.2.1, h.2.2.2.2.2.1, h.2.2.2.2.2.2.1, h.2.2.2.2.2.2.2.1, h.2.2.2.2.2.2.2.2.1, trivial⟩) ?_
 refine run_loop (ι := {y : Nat × Hp // y.1 ≤ List.length (lat x.above (Fc.b f)) ∧ E.St (emits E.stp (List.flatMap (fun y => List.map (fun a => fsub (Fc.a f) (Pc.c a)) (lat pm (Ky.mk 4 (Fc.r f) y))) (List.take y.1 (lat x.above (Fc.b f)))) nw) fm y.2}) (fun y => [(0, .pointer (some ⟨B.g, 0, none⟩)), (3, .pointer (some ⟨b1, 0, none⟩)), (14, .slice (Prod.fst (A.a (Fc.b f))) (List.length (lat x.above (Fc.b f))) (Prod.snd (A.a (Fc.b f)))), (15, .int .i64 (List.length (lat x.above (Fc.b f)) : Int)), (16, .int .i64 (y.1.1 : Int))]) (fun y => ((b1, .cells #[.int .i64 (Fc.kind f), str (Fc.a f), str (Fc.b f), str (Fc.r f), .int .i64 (Fc.lo f), .int .i64 (Fc.hi f)] 41 (0, 0)) :: y.1.2)) (fun y => [gF B E, pF B pm A, aF B x A, uF B x A, oF B x A, iF B x A, rF B x A, sF B x A, E.ef]) (fun y => List.length (lat x.above (Fc.b f)) - y.1.1) ⟨((0 : Nat), Hs), by simp, by exact hS⟩ ?_
 rintro ⟨⟨i, Hs_i⟩, hi_i, hS_i⟩
 dsimp only at hi_i hS_i ⊢
 refine ok_fr [(0, .pointer (some ⟨B.g, 0, none⟩)), (3, .pointer (some ⟨b1, 0, none⟩)), (14, .slice (Prod.fst (A.a (Fc.b f))) (List.length (lat x.above (Fc.b f))) (Prod.snd (A.a (Fc.b f)))), (15, .int .i64 (List.length (lat x.above (Fc.b f)) : Int)), (16, .int .i64 (i : Int))] ⟨rfl, rfl, rfl, rfl, rfl, trivial⟩ ?_
 have hb_i := (hxl (Fc.b f)).1
 refine run_seq (run_region (ops_valB (yld_lss rfl rfl) rfl fun r1 hr1 => ?_))
 refine ops_nil (fin_next rfl (run_seq ?_))
 cases r1
 ·
  replace hr1 := of_decide_eq_false hr1
  refine run_cond_f rfl (run_exit rfl (fin_end rfl ?_))
  exact end0 Tryz.results108 ⟨Hs_i, by unfold fillLinkL; rw [List.take_of_length_le (by omega)] at hS_i; exact hS_i⟩ rfl pf_lastB (fun _ _ _ => trivial)
 ·
  replace hr1 := of_decide_eq_true hr1
  have hlx1 : i < List.length (lat x.above (Fc.b f)) := by omega
  obtain ⟨x1, hx1⟩ : ∃ e0, (lat x.above (Fc.b f))[i]? = some e0 := ⟨_, List.getElem?_eq_getElem hlx1⟩
  have hmx1 : x1 ∈ (lat x.above (Fc.b f)) := List.mem_of_getElem? hx1
  refine run_cond_t rfl (run_skip (fin_next rfl (run_seq (run_block (run_seq (run_region (ops_val (yld_indexR Tryz.runUnderlying25 Tryz.sizeOf9 rfl rfl (fun v _ h => row_adr (n := 1) strC_len (by decide) (by exact (mlF_row h.2.2.1 (Fc.b f))) hx1) (by omega) (by first | omega | (simp; done))) rfl ?_)))))))
  refine ops_val (yld_loadR (ad := (Prod.fst (A.a (Fc.b f)))) Tryz.isAgg9 rfl (fun v _ h => by exact (mlF_row h.2.2.1 (Fc.b f))) (row_cells strC_len hx1 0 _ rfl)) rfl ?_
  refine ops_val (yld_assign rfl) rfl (ops_nil (fin_next rfl (run_seq ?_)))
  refine run_draw' (by kernel_rfl) ?_
  refine any_sq 0 [0, 1, 2, 3, 4, 5, 6, 7, 8, 9, 10] (by kernel_rfl) (fun _ a b => ⟨a, b⟩) ?_
  refine sq_val rfl (yld_move rfl) rfl ?_
  refine sq_val rfl (yld_nilck rfl) rfl ?_
  refine sq_val rfl (yld_field Tryz.runUnderlying94 rfl rfl rfl Tryz.sizeOf87) rfl ?_
  refine sq_val rfl (yld_loadO Tryz.isAgg87 rfl (fun v _ h => by exact h.1) rfl) rfl ?_
  refine sq_val rfl (yld_field Tryz.runUnderlying41 rfl rfl rfl Tryz.sizeOf9) rfl ?_
  refine sq_val rfl (yld_load 0 Tryz.isAgg9 rfl rfl rfl) rfl ?_
  refine sq_val rfl (yld_move rfl) rfl ?_
  refine sq_val rfl (yld_struct strt171 rfl rfl) rfl ?_
  refine sq_val rfl (yld_lookF (k := (Ky.mk 4 (Fc.r f) x1)) (adr := A.p) keyKy Tryz.runUnderlying87 Tryz.zeroValue22 rfl rfl (fun v _ h => by exact h.2.1)) rfl ?_
  refine sq_val rfl (yld_lenS Tryz.runUnderlying22 rfl) rfl ?_
  refine sq_val rfl (yld_move rfl) rfl ?_
  refine sq_nil ?_
  refine any_done (by kernel_rfl) ?_
  refine fin_next rfl (run_block (ok_fr [(0, .pointer (some ⟨B.g, 0, none⟩)), (3, .pointer (some ⟨b1, 0, none⟩)), (14, .slice (Prod.fst (A.a (Fc.b f))) (List.length (lat x.above (Fc.b f))) (Prod.snd (A.a (Fc.b f)))), (15, .int .i64 (List.length (lat x.above (Fc.b f)) : Int)), (16, .int .i64 (i : Int)), (28, .slice (Prod.fst (A.p (Ky.mk 4 (Fc.r f) x1))) (List.length (lat pm (Ky.mk 4 (Fc.r f) x1))) (Prod.snd (A.p (Ky.mk 4 (Fc.r f) x1)))), (29, .int .i64 (List.length (lat pm (Ky.mk 4 (Fc.r f) x1)) : Int)), (30, .int .i64 ((0 : Nat) : Int))] ⟨rfl, rfl, rfl, rfl, rfl, rfl, rfl, rfl, trivial⟩ ?_))
  refine ok_weak (H' := ((b1, .cells #[.int .i64 (Fc.kind f), str (Fc.a f), str (Fc.b f), str (Fc.r f), .int .i64 (Fc.lo f), .int .i64 (Fc.hi f)] 41 (0, 0)) :: Hs_i)) (Γ' := [gF B E, pF B pm A, aF B x A, uF B x A, oF B x A, iF B x A, rF B x A, sF B x A, E.ef]) (pf_takeB pf_here pf_end) (fun v _ h => by exact ⟨h.1, h.2.1, h.2.2.1, h.2.2.2.1, h.2.2.2.2.1, h.2.2.2.2.2.1, h.2.2.2.2.2.2.1, h.2.2.2.2.2.2.2.1, h.2.2.2.2.2.2.2.2.1, trivial⟩) ?_
  refine run_loop (ι := {y : Nat × Hp // y.1 ≤ List.length (lat pm (Ky.mk 4 (Fc.r f) x1)) ∧ E.St (emits E.stp (List.map (fun a => fsub (Fc.a f) (Pc.c a)) (List.take y.1 (lat pm (Ky.mk 4 (Fc.r f) x1)))) (emits E.stp (List.flatMap (fun y => List.map (fun a => fsub (Fc.a f) (Pc.c a)) (lat pm (Ky.mk 4 (Fc.r f) y))) (List.take i (lat x.above (Fc.b f)))) nw)) fm y.2}) (fun y => [(0, .pointer (some ⟨B.g, 0, none⟩)), (3, .pointer (some ⟨b1, 0, none⟩)), (14, .slice (Prod.fst (A.a (Fc.b f))) (List.length (lat x.above (Fc.b f))) (Prod.snd (A.a (Fc.b f)))), (15, .int .i64 (List.length (lat x.above (Fc.b f)) : Int)), (16, .int .i64 (i : Int)), (28, .slice (Prod.fst (A.p (Ky.mk 4 (Fc.r f) x1))) (List.length (lat pm (Ky.mk 4 (Fc.r f) x1))) (Prod.snd (A.p (Ky.mk 4 (Fc.r f) x1)))), (29, .int .i64 (List.length (lat pm (Ky.mk 4 (Fc.r f) x1)) : Int)), (30, .int .i64 (y.1.1 : Int))]) (fun y => ((b1, .cells #[.int .i64 (Fc.kind f), str (Fc.a f), str (Fc.b f), str (Fc.r f), .int .i64 (Fc.lo f), .int .i64 (Fc.hi f)] 41 (0, 0)) :: y.1.2)) (fun y => [gF B E, pF B pm A, aF B x A, uF B x A, oF B x A, iF B x A, rF B x A, sF B x A, E.ef]) (fun y => List.length (lat pm (Ky.mk 4 (Fc.r f) x1)) - y.1.1) ⟨((0 : Nat), Hs_i), by simp, by exact hS_i⟩ ?_
  rintro ⟨⟨j, Hs_j⟩, hi_j, hS_j⟩
  dsimp only at hi_j hS_j ⊢
  refine ok_fr [(0, .pointer (some ⟨B.g, 0, none⟩)), (3, .pointer (some ⟨b1, 0, none⟩)), (14, .slice (Prod.fst (A.a (Fc.b f))) (List.length (lat x.above (Fc.b f))) (Prod.snd (A.a (Fc.b f)))), (15, .int .i64 (List.length (lat x.above (Fc.b f)) : Int)), (16, .int .i64 (i : Int)), (28, .slice (Prod.fst (A.p (Ky.mk 4 (Fc.r f) x1))) (List.length (lat pm (Ky.mk 4 (Fc.r f) x1))) (Prod.snd (A.p (Ky.mk 4 (Fc.r f) x1)))), (29, .int .i64 (List.length (lat pm (Ky.mk 4 (Fc.r f) x1)) : Int)), (30, .int .i64 (j : Int))] ⟨rfl, rfl, rfl, rfl, rfl, rfl, rfl, rfl, trivial⟩ ?_
  have hb_j := hpl (Ky.mk 4 (Fc.r f) x1)
  refine run_seq (run_region (ops_valB (yld_lss rfl rfl) rfl fun r2 hr2 => ?_))
  refine ops_nil (fin_next rfl (run_seq ?_))
  cases r2
  ·
   replace hr2 := of_decide_eq_false hr2
   refine run_cond_f rfl (run_exit rfl (fin_next rfl (run_region (ops_val (yld_arith rfl rfl rfl (wrap64 (by omega) (by omega))) rfl ?_))))
   refine ops_val (yld_move rfl) rfl (ops_nil (fin_inv rfl ?_))
   exact ok_again ⟨(i + 1, Hs_j), hlx1, (by rw [fmap_step hx1, emits_append]; have e9 : List.take j (lat pm (Ky.mk 4 (Fc.r f) x1)) = (lat pm (Ky.mk 4 (Fc.r f) x1)) := List.take_of_length_le (by omega); rw [e9] at hS_j; exact hS_j)⟩ (by dsimp only; omega) ⟨rfl, rfl, rfl, rfl, rfl, trivial⟩ (pf_takeB pf_here pf_end) (fun v _ h => by exact ⟨h.1, h.2.1, h.2.2.1, h.2.2.2.1, h.2.2.2.2.1, h.2.2.2.2.2.1, h.2.2.2.2.2.2.1, h.2.2.2.2.2.2.2.1, h.2.2.2.2.2.2.2.2.1, trivial⟩)
  ·
   replace hr2 := of_decide_eq_true hr2
   have hlx2 : j < List.length (lat pm (Ky.mk 4 (Fc.r f) x1)) := by omega
   obtain ⟨x2, hx2⟩ : ∃ e0, (lat pm (Ky.mk 4 (Fc.r f) x1))[j]? = some e0 := ⟨_, List.getElem?_eq_getElem hlx2⟩
   have hmx2 : x2 ∈ (lat pm (Ky.mk 4 (Fc.r f) x1)) := List.mem_of_getElem? hx2
   refine run_cond_t rfl (run_skip (fin_next rfl (run_seq (run_block (run_seq (run_region (ops_val (yld_indexR Tryz.runUnderlying22 Tryz.sizeOf47 rfl rfl (fun v _ h => row_adr (n := 10) Pc.cells_len (by decide) (by exact (mlF_row h.2.1 (Ky.mk 4 (Fc.r f) x1))) hx2) (by omega) (by first | omega | (simp; done))) rfl ?_)))))))
   refine ops_val (yld_loadRS (ad := (Prod.fst (A.p (Ky.mk 4 (Fc.r f) x1)))) (us := Pc.cells x2) Tryz.isAgg47 Tryz.sizeOf47 rfl (fun v _ h => by exact (mlF_row h.2.1 (Ky.mk 4 (Fc.r f) x1))) (Pc.cells_len _) (row_cells Pc.cells_len hx2)) rfl ?_
   refine ops_alloc Tryz.zeroValue47 rfl fun b2 => ?_
   refine ops_store 0 Tryz.sizeOf47 rfl rfl rfl rfl rfl rfl ?_
   refine ops_nil (fin_next rfl ?_)
   refine run_drawH ((b2, .cells #[.int .i64 (Pc.kind x2), str (Pc.a x2), str (Pc.b x2), str (Pc.c x2), str (Pc.r x2), str (Pc.s x2), str (Pc.t x2), .int .i64 (Pc.lo x2), .int .i64 (Pc.hi x2), .int .i64 (Pc.frm x2)] 47 (0, 0)) :: ((b1, .cells #[.int .i64 (Fc.kind f), str (Fc.a f), str (Fc.b f), str (Fc.r f), .int .i64 (Fc.lo f), .int .i64 (Fc.hi f)] 41 (0, 0)) :: [])) (by kernel_rfl) ?_
   refine any_sq 2 [0, 1, 2, 3, 4, 5, 6, 7] (by kernel_rfl) (fun _ a b => ⟨Vw.sat.sub (a.perm (pf_takeB pf_here pf_here)), b⟩) ?_
   refine sq_val rfl (yld_move rfl) rfl ?_
   refine sq_val rfl (yld_nilck rfl) rfl ?_
   refine sq_val rfl (yld_field Tryz.runUnderlying94 rfl rfl rfl Tryz.sizeOf89) rfl ?_
   refine sq_val rfl (yld_loadO Tryz.isAgg89 rfl (fun v _ h => by exact h.1) rfl) rfl ?_
   refine sq_val rfl (yld_field Tryz.runUnderlying41 rfl rfl rfl Tryz.sizeOf9) rfl ?_
   refine sq_val rfl (yld_load 1 Tryz.isAgg9 rfl rfl rfl) rfl ?_
   refine sq_val rfl (yld_field Tryz.runUnderlying47 rfl rfl rfl Tryz.sizeOf9) rfl ?_
   refine sq_val rfl (yld_load 0 Tryz.isAgg9 rfl rfl rfl) rfl ?_
   refine sq_nil ?_
   refine any_one 8 rfl (by kernel_rfl) ?_
   refine ops_call (sub_c (Fc.a f) (Pc.c x2)) rfl pf_nil (fun _ _ _ => by exact trivial) rfl fun _ => ?_
   refine ops_nil (fin_inv rfl (any_next (fun _ a b => ⟨Vw.sat.sub (a.perm (pf_takeB pf_here pf_here)), b⟩) ?_))
   refine any_one 9 rfl (by kernel_rfl) ?_
   refine ops_calld (first := []) (cap := E.caps) (E.emit (fsub (Fc.a f) (Pc.c x2)) (emits E.stp (List.map (fun a => fsub (Fc.a f) (Pc.c a)) (List.take j (lat pm (Ky.mk 4 (Fc.r f) x1)))) (emits E.stp (List.flatMap (fun y => List.map (fun a => fsub (Fc.a f) (Pc.c a)) (lat pm (Ky.mk 4 (Fc.r f) y))) (List.take i (lat x.above (Fc.b f)))) nw)) fm Hs_j hS_j) rfl rfl (pf_cons pf_lastB) (fun v _ h => by exact ⟨h.2.2.2.2.2.2.2.2.1, trivial⟩) rfl fun ⟨Hs1, hS1⟩ => ?_
   dsimp only
   refine ops_nil (fin_inv rfl (any_next (fun _ a b => ⟨Vw.sat.sub (a.perm (pf_takeB (pf_app pf_here) pf_last)), b⟩) ?_))
   refine any_done (by kernel_rfl) ?_
   refine fin_next rfl (run_region (ops_val (yld_arith rfl rfl rfl (wrap64 (by omega) (by omega))) rfl ?_))
   refine ops_val (yld_move rfl) rfl (ops_nil (fin_inv rfl ?_))
   exact ok_again ⟨(j + 1, Hs1), hlx2, (by rw [map_step hx2, emits_append]; exact hS1)⟩ (by dsimp only; omega) ⟨rfl, rfl, rfl, rfl, rfl, rfl, rfl, rfl, trivial⟩ (pf_takeB (pf_app (pf_cons pf_here)) pf_hereO) (fun v _ h => by exact ⟨h.1, h.2.1, h.2.2.1, h.2.2.2.1, h.2.2.2.2.1, h.2.2.2.2.2.1, h.2.2.2.2.2.2.1, h.2.2.2.2.2.2.2.1, h.2.2.2.2.2.2.2.2.1, trivial⟩)
theorem chain_c (B : EngB) (E : Emt Tryz.prog 41) (A : EngA) (pm : List (Ky × Pc)) (x : Ix) (f : Fc) (nw fm : List Fc) (Hs : Hp) (hS : E.St nw fm Hs) (hpl : ∀ k, (lat pm k).length ≤ 1000000000) (hxl : ∀ k, (lat x.above k).length ≤ 1000000000 ∧ (lat x.under k).length ≤ 1000000000) (hyl : ∀ k, (lat x.frm k).length ≤ 1000000000 ∧ (lat x.into k).length ≤ 1000000000 ∧ (lat x.ranges k).length ≤ 1000000000 ∧ (lat x.firms k).length ≤ 1000000000) : Tri Tryz.prog 107 #[.pointer (some ⟨B.g, 0, none⟩), Fc.val f] Hs [gF B E, pF B pm A, aF B x A, uF B x A, oF B x A, iF B x A, rF B x A, sF B x A, E.ef] (fun _ : {H' : Hp // E.St (emits E.stp (chainL1 pm x f ++ chainL2 pm x f) nw) fm H'} => .tuple #[]) (fun y => y.1) (fun _ => []) := by
 refine tri_of_body Tryz.func107 rfl rfl Tryz.ntmps107 rfl fun v0 => ?_
 refine run_seq (run_region (ops_box rfl rfl fun b1 => ?_))
 refine ops_nil (fin_next rfl (run_seq (run_seq ?_)))
 refine run_draw' (by kernel_rfl) ?_
 refine any_sq 0 [0, 1, 2, 3, 4, 5, 6, 7, 8, 9] (by kernel_rfl) (fun _ a b => ⟨a, b⟩) ?_
 refine sq_val rfl (yld_move rfl) rfl ?_
 refine sq_val rfl (yld_nilck rfl) rfl ?_
 refine sq_val rfl (yld_field Tryz.runUnderlying94 rfl rfl rfl Tryz.sizeOf87) rfl ?_
 refine sq_val rfl (yld_loadO Tryz.isAgg87 rfl (fun v _ h => by exact h.1) rfl) rfl ?_
 refine sq_val rfl (yld_field Tryz.runUnderlying41 rfl rfl rfl Tryz.sizeOf9) rfl ?_
 refine sq_val rfl (yld_load 0 Tryz.isAgg9 rfl rfl rfl) rfl ?_
 refine sq_val rfl (yld_struct strt171 rfl rfl) rfl ?_
 refine sq_val rfl (yld_lookF (k := (Ky.mk 6 (Fc.r f) [])) (adr := A.p) keyKy Tryz.runUnderlying87 Tryz.zeroValue22 rfl rfl (fun v _ h => by exact h.2.1)) rfl ?_
 refine sq_val rfl (yld_lenS Tryz.runUnderlying22 rfl) rfl ?_
 refine sq_val rfl (yld_move rfl) rfl ?_
 refine sq_nil ?_
 refine any_done (by kernel_rfl) ?_
 refine fin_next rfl (run_block (ok_fr [(0, .pointer (some ⟨B.g, 0, none⟩)), (3, .pointer (some ⟨b1, 0, none⟩)), (19, .slice (Prod.fst (A.p (Ky.mk 6 (Fc.r f) []))) (List.length (lat pm (Ky.mk 6 (Fc.r f) []))) (Prod.snd (A.p (Ky.mk 6 (Fc.r f) [])))), (20, .int .i64 (List.length (lat pm (Ky.mk 6 (Fc.r f) [])) : Int)), (21, .int .i64 ((0 : Nat) : Int))] ⟨rfl, rfl, rfl, rfl, rfl, trivial⟩ ?_))
 refine ok_weak (H' := ((b1, .cells #[.int .i64 (Fc.kind f), str (Fc.a f), str (Fc.b f), str (Fc.r f), .int .i64 (Fc.lo f), .int .i64 (Fc.hi f)] 41 (0, 0)) :: Hs)) (Γ' := [gF B E, pF B pm A, aF B x A, uF B x A, oF B x A, iF B x A, rF B x A, sF B x A, E.ef]) (pf_takeB pf_here pf_end) (fun v _ h => by exact ⟨h.1, h.2.1, h.2.2.1, h.2.2.2.1, h.2.2.2.2.1, h.2.2.2.2.2.1, h.2.2.2.2.2.2.1, h.2.2.2.2.2.2.2.1, h.2.2.2.2.2.2.2.2.1, trivial⟩) ?_
 refine run_loop (ι := {y : Nat × Hp // y.1 ≤ List.length (lat pm (Ky.mk 6 (Fc.r f) [])) ∧ E.St (emits E.stp (List.flatMap (fun y => List.map (fun a => flink (Fc.a f) (Pc.t y) a) (lat x.frm (Fc.b f, Pc.s y))) (List.take y.1 (lat pm (Ky.mk 6 (Fc.r f) [])))) nw) fm y.2}) (fun y => [(0, .pointer (some ⟨B.g, 0, none⟩)), (3, .pointer (some ⟨b1, 0, none⟩)), (19, .slice (Prod.fst (A.p (Ky.mk 6 (Fc.r f) []))) (List.length (lat pm (Ky.mk 6 (Fc.r f) []))) (Prod.snd (A.p (Ky.mk 6 (Fc.r f) [])))), (20, .int .i64 (List.length (lat pm (Ky.mk 6 (Fc.r f) [])) : Int)), (21, .int .i64 (y.1.1 : Int))]) (fun y => ((b1, .cells #[.int .i64 (Fc.kind f), str (Fc.a f), str (Fc.b f), str (Fc.r f), .int .i64 (Fc.lo f), .int .i64 (Fc.hi f)] 41 (0, 0)) :: y.1.2)) (fun y => [gF B E, pF B pm A, aF B x A, uF B x A, oF B x A, iF B x A, rF B x A, sF B x A, E.ef]) (fun y => List.length (lat pm (Ky.mk 6 (Fc.r f) [])) - y.1.1) ⟨((0 : Nat), Hs), by simp, by exact hS⟩ ?_
 rintro ⟨⟨i, Hs_i⟩, hi_i, hS_i⟩
 dsimp only at hi_i hS_i ⊢
 refine ok_fr [(0, .pointer (some ⟨B.g, 0, none⟩)), (3, .pointer (some ⟨b1, 0, none⟩)), (19, .slice (Prod.fst (A.p (Ky.mk 6 (Fc.r f) []))) (List.length (lat pm (Ky.mk 6 (Fc.r f) []))) (Prod.snd (A.p (Ky.mk 6 (Fc.r f) [])))), (20, .int .i64 (List.length (lat pm (Ky.mk 6 (Fc.r f) [])) : Int)), (21, .int .i64 (i : Int))] ⟨rfl, rfl, rfl, rfl, rfl, trivial⟩ ?_
 have hb_i := hpl (Ky.mk 6 (Fc.r f) [])
 refine run_seq (run_region (ops_valB (yld_lss rfl rfl) rfl fun r1 hr1 => ?_))
 refine ops_nil (fin_next rfl (run_seq ?_))
 cases r1
 ·
  replace hr1 := of_decide_eq_false hr1
  refine run_cond_f rfl (run_exit rfl (fin_next rfl (run_seq ?_)))
  refine run_draw' (by kernel_rfl) ?_
  refine any_sq 0 [0, 1, 2, 3, 4, 5, 6, 7, 8, 9] (by kernel_rfl) (fun _ a b => ⟨a, b⟩) ?_
  refine sq_val rfl (yld_move rfl) rfl ?_
  refine sq_val rfl (yld_nilck rfl) rfl ?_
  refine sq_val rfl (yld_field Tryz.runUnderlying94 rfl rfl rfl Tryz.sizeOf87) rfl ?_
  refine sq_val rfl (yld_loadO Tryz.isAgg87 rfl (fun v _ h => by exact h.1) rfl) rfl ?_
  refine sq_val rfl (yld_field Tryz.runUnderlying41 rfl rfl rfl Tryz.sizeOf9) rfl ?_
  refine sq_val rfl (yld_load 0 Tryz.isAgg9 rfl rfl rfl) rfl ?_
  refine sq_val rfl (yld_struct strt171 rfl rfl) rfl ?_
  refine sq_val rfl (yld_lookF (k := (Ky.mk 6 [] (Fc.r f))) (adr := A.p) keyKy Tryz.runUnderlying87 Tryz.zeroValue22 rfl rfl (fun v _ h => by exact h.2.1)) rfl ?_
  refine sq_val rfl (yld_lenS Tryz.runUnderlying22 rfl) rfl ?_
  refine sq_val rfl (yld_move rfl) rfl ?_
  refine sq_nil ?_
  refine any_done (by kernel_rfl) ?_
  refine fin_next rfl (run_block (ok_fr [(0, .pointer (some ⟨B.g, 0, none⟩)), (3, .pointer (some ⟨b1, 0, none⟩)), (19, .slice (Prod.fst (A.p (Ky.mk 6 (Fc.r f) []))) (List.length (lat pm (Ky.mk 6 (Fc.r f) []))) (Prod.snd (A.p (Ky.mk 6 (Fc.r f) [])))), (20, .int .i64 (List.length (lat pm (Ky.mk 6 (Fc.r f) [])) : Int)), (21, .int .i64 (i : Int)), (60, .slice (Prod.fst (A.p (Ky.mk 6 [] (Fc.r f)))) (List.length (lat pm (Ky.mk 6 [] (Fc.r f)))) (Prod.snd (A.p (Ky.mk 6 [] (Fc.r f))))), (61, .int .i64 (List.length (lat pm (Ky.mk 6 [] (Fc.r f))) : Int)), (62, .int .i64 ((0 : Nat) : Int))] ⟨rfl, rfl, rfl, rfl, rfl, rfl, rfl, rfl, trivial⟩ ?_))
  refine ok_weak (H' := ((b1, .cells #[.int .i64 (Fc.kind f), str (Fc.a f), str (Fc.b f), str (Fc.r f), .int .i64 (Fc.lo f), .int .i64 (Fc.hi f)] 41 (0, 0)) :: Hs_i)) (Γ' := [gF B E, pF B pm A, aF B x A, uF B x A, oF B x A, iF B x A, rF B x A, sF B x A, E.ef]) (pf_takeB pf_here pf_end) (fun v _ h => by exact ⟨h.1, h.2.1, h.2.2.1, h.2.2.2.1, h.2.2.2.2.1, h.2.2.2.2.2.1, h.2.2.2.2.2.2.1, h.2.2.2.2.2.2.2.1, h.2.2.2.2.2.2.2.2.1, trivial⟩) ?_
  refine run_loop (ι := {y : Nat × Hp // y.1 ≤ List.length (lat pm (Ky.mk 6 [] (Fc.r f))) ∧ E.St (emits E.stp (List.flatMap (fun y => List.map (fun a => flink a (Pc.t y) (Fc.b f)) (lat x.into (Fc.a f, Pc.r y))) (List.take y.1 (lat pm (Ky.mk 6 [] (Fc.r f))))) (emits E.stp (chainL1 pm x f) nw)) fm y.2}) (fun y => [(0, .pointer (some ⟨B.g, 0, none⟩)), (3, .pointer (some ⟨b1, 0, none⟩)), (19, .slice (Prod.fst (A.p (Ky.mk 6 (Fc.r f) []))) (List.length (lat pm (Ky.mk 6 (Fc.r f) []))) (Prod.snd (A.p (Ky.mk 6 (Fc.r f) [])))), (20, .int .i64 (List.length (lat pm (Ky.mk 6 (Fc.r f) [])) : Int)), (21, .int .i64 (i : Int)), (60, .slice (Prod.fst (A.p (Ky.mk 6 [] (Fc.r f)))) (List.length (lat pm (Ky.mk 6 [] (Fc.r f)))) (Prod.snd (A.p (Ky.mk 6 [] (Fc.r f))))), (61, .int .i64 (List.length (lat pm (Ky.mk 6 [] (Fc.r f))) : Int)), (62, .int .i64 (y.1.1 : Int))]) (fun y => ((b1, .cells #[.int .i64 (Fc.kind f), str (Fc.a f), str (Fc.b f), str (Fc.r f), .int .i64 (Fc.lo f), .int .i64 (Fc.hi f)] 41 (0, 0)) :: y.1.2)) (fun y => [gF B E, pF B pm A, aF B x A, uF B x A, oF B x A, iF B x A, rF B x A, sF B x A, E.ef]) (fun y => List.length (lat pm (Ky.mk 6 [] (Fc.r f))) - y.1.1) ⟨((0 : Nat), Hs_i), by simp, by have e9 : List.take i (lat pm (Ky.mk 6 (Fc.r f) [])) = (lat pm (Ky.mk 6 (Fc.r f) [])) := List.take_of_length_le (by omega); rw [e9] at hS_i; exact hS_i⟩ ?_
  rintro ⟨⟨k, Hs_k⟩, hi_k, hS_k⟩
  dsimp only at hi_k hS_k ⊢
  refine ok_fr [(0, .pointer (some ⟨B.g, 0, none⟩)), (3, .pointer (some ⟨b1, 0, none⟩)), (19, .slice (Prod.fst (A.p (Ky.mk 6 (Fc.r f) []))) (List.length (lat pm (Ky.mk 6 (Fc.r f) []))) (Prod.snd (A.p (Ky.mk 6 (Fc.r f) [])))), (20, .int .i64 (List.length (lat pm (Ky.mk 6 (Fc.r f) [])) : Int)), (21, .int .i64 (i : Int)), (60, .slice (Prod.fst (A.p (Ky.mk 6 [] (Fc.r f)))) (List.length (lat pm (Ky.mk 6 [] (Fc.r f)))) (Prod.snd (A.p (Ky.mk 6 [] (Fc.r f))))), (61, .int .i64 (List.length (lat pm (Ky.mk 6 [] (Fc.r f))) : Int)), (62, .int .i64 (k : Int))] ⟨rfl, rfl, rfl, rfl, rfl, rfl, rfl, rfl, trivial⟩ ?_
  have hb_k := hpl (Ky.mk 6 [] (Fc.r f))
  refine run_seq (run_region (ops_valB (yld_lss rfl rfl) rfl fun r2 hr2 => ?_))
  refine ops_nil (fin_next rfl (run_seq ?_))
  cases r2
  ·
   replace hr2 := of_decide_eq_false hr2
   refine run_cond_f rfl (run_exit rfl (fin_end rfl ?_))
   exact end0 Tryz.results107 ⟨Hs_k, by rw [emits_append]; unfold chainL2; have e8 : List.take k (lat pm (Ky.mk 6 [] (Fc.r f))) = lat pm (Ky.mk 6 [] (Fc.r f)) := List.take_of_length_le (by omega); rw [e8] at hS_k; exact hS_k⟩ rfl pf_lastB (fun _ _ _ => trivial)
  ·
   replace hr2 := of_decide_eq_true hr2
   have hlx3 : k < List.length (lat pm (Ky.mk 6 [] (Fc.r f))) := by omega
   obtain ⟨x3, hx3⟩ : ∃ e0, (lat pm (Ky.mk 6 [] (Fc.r f)))[k]? = some e0 := ⟨_, List.getElem?_eq_getElem hlx3⟩
   have hmx3 : x3 ∈ (lat pm (Ky.mk 6 [] (Fc.r f))) := List.mem_of_getElem? hx3
   refine run_cond_t rfl (run_skip (fin_next rfl (run_seq (run_block (run_seq (run_region (ops_val (yld_indexR Tryz.runUnderlying22 Tryz.sizeOf47 rfl rfl (fun v _ h => row_adr (n := 10) Pc.cells_len (by decide) (by exact (mlF_row h.2.1 (Ky.mk 6 [] (Fc.r f)))) hx3) (by omega) (by first | omega | (simp; done))) rfl ?_)))))))
   refine ops_val (yld_loadRS (ad := (Prod.fst (A.p (Ky.mk 6 [] (Fc.r f))))) (us := Pc.cells x3) Tryz.isAgg47 Tryz.sizeOf47 rfl (fun v _ h => by exact (mlF_row h.2.1 (Ky.mk 6 [] (Fc.r f)))) (Pc.cells_len _) (row_cells Pc.cells_len hx3)) rfl ?_
   refine ops_alloc Tryz.zeroValue47 rfl fun b2 => ?_
   refine ops_store 0 Tryz.sizeOf47 rfl rfl rfl rfl rfl rfl ?_
   refine ops_nil (fin_next rfl (run_seq ?_))
   refine run_draw' (by kernel_rfl) ?_
   refine any_sq 0 [0, 1, 2, 3, 4, 5, 6, 7, 8, 9, 10, 11] (by kernel_rfl) (fun _ a b => ⟨a, b⟩) ?_
   refine sq_val rfl (yld_move rfl) rfl ?_
   refine sq_val rfl (yld_nilck rfl) rfl ?_
   refine sq_val rfl (yld_field Tryz.runUnderlying94 rfl rfl rfl Tryz.sizeOf91) rfl ?_
   refine sq_val rfl (yld_loadO Tryz.isAgg91 rfl (fun v _ h => by exact h.1) rfl) rfl ?_
   refine sq_val rfl (yld_field Tryz.runUnderlying41 rfl rfl rfl Tryz.sizeOf9) rfl ?_
   refine sq_val rfl (yld_load 1 Tryz.isAgg9 rfl rfl rfl) rfl ?_
   refine sq_val rfl (yld_field Tryz.runUnderlying47 rfl rfl rfl Tryz.sizeOf9) rfl ?_
   refine sq_val rfl (yld_load 0 Tryz.isAgg9 rfl rfl rfl) rfl ?_
   refine sq_val rfl (yld_struct strt145 rfl rfl) rfl ?_
   refine sq_val rfl (yld_lookF (k := ((Fc.a f), (Pc.r x3))) (adr := A.i) keySpot Tryz.runUnderlying91 Tryz.zeroValue25 rfl rfl (fun v _ h => by exact h.2.2.2.2.2.1)) rfl ?_
   refine sq_val rfl (yld_lenS Tryz.runUnderlying25 rfl) rfl ?_
   refine sq_val rfl (yld_move rfl) rfl ?_
   refine sq_nil ?_
   refine any_done (by kernel_rfl) ?_
   refine fin_next rfl (run_block (ok_fr [(0, .pointer (some ⟨B.g, 0, none⟩)), (3, .pointer (some ⟨b1, 0, none⟩)), (19, .slice (Prod.fst (A.p (Ky.mk 6 (Fc.r f) []))) (List.length (lat pm (Ky.mk 6 (Fc.r f) []))) (Prod.snd (A.p (Ky.mk 6 (Fc.r f) [])))), (20, .int .i64 (List.length (lat pm (Ky.mk 6 (Fc.r f) [])) : Int)), (21, .int .i64 (i : Int)), (60, .slice (Prod.fst (A.p (Ky.mk 6 [] (Fc.r f)))) (List.length (lat pm (Ky.mk 6 [] (Fc.r f)))) (Prod.snd (A.p (Ky.mk 6 [] (Fc.r f))))), (61, .int .i64 (List.length (lat pm (Ky.mk 6 [] (Fc.r f))) : Int)), (62, .int .i64 (k : Int)), (9, .pointer (some ⟨b2, 0, none⟩)), (75, .slice (Prod.fst (A.i ((Fc.a f), (Pc.r x3)))) (List.length (lat x.into ((Fc.a f), (Pc.r x3)))) (Prod.snd (A.i ((Fc.a f), (Pc.r x3))))), (76, .int .i64 (List.length (lat x.into ((Fc.a f), (Pc.r x3))) : Int)), (77, .int .i64 ((0 : Nat) : Int))] ⟨rfl, rfl, rfl, rfl, rfl, rfl, rfl, rfl, rfl, rfl, rfl, rfl, trivial⟩ ?_))
   refine ok_weak (H' := ((b2, .cells #[.int .i64 (Pc.kind x3), str (Pc.a x3), str (Pc.b x3), str (Pc.c x3), str (Pc.r x3), str (Pc.s x3), str (Pc.t x3), .int .i64 (Pc.lo x3), .int .i64 (Pc.hi x3), .int .i64 (Pc.frm x3)] 47 (0, 0)) :: ((b1, .cells #[.int .i64 (Fc.kind f), str (Fc.a f), str (Fc.b f), str (Fc.r f), .int .i64 (Fc.lo f), .int .i64 (Fc.hi f)] 41 (0, 0)) :: Hs_k))) (Γ' := [gF B E, pF B pm A, aF B x A, uF B x A, oF B x A, iF B x A, rF B x A, sF B x A, E.ef]) (pf_takeB pf_here (pf_takeB pf_here pf_end)) (fun v _ h => by exact ⟨h.1, h.2.1, h.2.2.1, h.2.2.2.1, h.2.2.2.2.1, h.2.2.2.2.2.1, h.2.2.2.2.2.2.1, h.2.2.2.2.2.2.2.1, h.2.2.2.2.2.2.2.2.1, trivial⟩) ?_
   refine run_loop (ι := {y : Nat × Hp // y.1 ≤ List.length (lat x.into ((Fc.a f), (Pc.r x3))) ∧ E.St (emits E.stp (List.map (fun a => flink a (Pc.t x3) (Fc.b f)) (List.take y.1 (lat x.into ((Fc.a f), (Pc.r x3))))) (emits E.stp (List.flatMap (fun y => List.map (fun a => flink a (Pc.t y) (Fc.b f)) (lat x.into (Fc.a f, Pc.r y))) (List.take k (lat pm (Ky.mk 6 [] (Fc.r f))))) (emits E.stp (chainL1 pm x f) nw))) fm y.2}) (fun y => [(0, .pointer (some ⟨B.g, 0, none⟩)), (3, .pointer (some ⟨b1, 0, none⟩)), (19, .slice (Prod.fst (A.p (Ky.mk 6 (Fc.r f) []))) (List.length (lat pm (Ky.mk 6 (Fc.r f) []))) (Prod.snd (A.p (Ky.mk 6 (Fc.r f) [])))), (20, .int .i64 (List.length (lat pm (Ky.mk 6 (Fc.r f) [])) : Int)), (21, .int .i64 (i : Int)), (60, .slice (Prod.fst (A.p (Ky.mk 6 [] (Fc.r f)))) (List.length (lat pm (Ky.mk 6 [] (Fc.r f)))) (Prod.snd (A.p (Ky.mk 6 [] (Fc.r f))))), (61, .int .i64 (List.length (lat pm (Ky.mk 6 [] (Fc.r f))) : Int)), (62, .int .i64 (k : Int)), (9, .pointer (some ⟨b2, 0, none⟩)), (75, .slice (Prod.fst (A.i ((Fc.a f), (Pc.r x3)))) (List.length (lat x.into ((Fc.a f), (Pc.r x3)))) (Prod.snd (A.i ((Fc.a f), (Pc.r x3))))), (76, .int .i64 (List.length (lat x.into ((Fc.a f), (Pc.r x3))) : Int)), (77, .int .i64 (y.1.1 : Int))]) (fun y => ((b2, .cells #[.int .i64 (Pc.kind x3), str (Pc.a x3), str (Pc.b x3), str (Pc.c x3), str (Pc.r x3), str (Pc.s x3), str (Pc.t x3), .int .i64 (Pc.lo x3), .int .i64 (Pc.hi x3), .int .i64 (Pc.frm x3)] 47 (0, 0)) :: ((b1, .cells #[.int .i64 (Fc.kind f), str (Fc.a f), str (Fc.b f), str (Fc.r f), .int .i64 (Fc.lo f), .int .i64 (Fc.hi f)] 41 (0, 0)) :: y.1.2))) (fun y => [gF B E, pF B pm A, aF B x A, uF B x A, oF B x A, iF B x A, rF B x A, sF B x A, E.ef]) (fun y => List.length (lat x.into ((Fc.a f), (Pc.r x3))) - y.1.1) ⟨((0 : Nat), Hs_k), by simp, by exact hS_k⟩ ?_
   rintro ⟨⟨l, Hs_l⟩, hi_l, hS_l⟩
   dsimp only at hi_l hS_l ⊢
   refine ok_fr [(0, .pointer (some ⟨B.g, 0, none⟩)), (3, .pointer (some ⟨b1, 0, none⟩)), (19, .slice (Prod.fst (A.p (Ky.mk 6 (Fc.r f) []))) (List.length (lat pm (Ky.mk 6 (Fc.r f) []))) (Prod.snd (A.p (Ky.mk 6 (Fc.r f) [])))), (20, .int .i64 (List.length (lat pm (Ky.mk 6 (Fc.r f) [])) : Int)), (21, .int .i64 (i : Int)), (60, .slice (Prod.fst (A.p (Ky.mk 6 [] (Fc.r f)))) (List.length (lat pm (Ky.mk 6 [] (Fc.r f)))) (Prod.snd (A.p (Ky.mk 6 [] (Fc.r f))))), (61, .int .i64 (List.length (lat pm (Ky.mk 6 [] (Fc.r f))) : Int)), (62, .int .i64 (k : Int)), (9, .pointer (some ⟨b2, 0, none⟩)), (75, .slice (Prod.fst (A.i ((Fc.a f), (Pc.r x3)))) (List.length (lat x.into ((Fc.a f), (Pc.r x3)))) (Prod.snd (A.i ((Fc.a f), (Pc.r x3))))), (76, .int .i64 (List.length (lat x.into ((Fc.a f), (Pc.r x3))) : Int)), (77, .int .i64 (l : Int))] ⟨rfl, rfl, rfl, rfl, rfl, rfl, rfl, rfl, rfl, rfl, rfl, rfl, trivial⟩ ?_
   have hb_l := (hyl ((Fc.a f), (Pc.r x3))).2.1
   refine run_seq (run_region (ops_valB (yld_lss rfl rfl) rfl fun r3 hr3 => ?_))
   refine ops_nil (fin_next rfl (run_seq ?_))
   cases r3
   ·
    replace hr3 := of_decide_eq_false hr3
    refine run_cond_f rfl (run_exit rfl (fin_next rfl (run_region (ops_val (yld_arith rfl rfl rfl (wrap64 (by omega) (by omega))) rfl ?_))))
    refine ops_val (yld_move rfl) rfl (ops_nil (fin_inv rfl ?_))
    exact ok_again ⟨(k + 1, Hs_l), hlx3, (by rw [fmap_step hx3, emits_append]; have e9 : List.take l (lat x.into (Fc.a f, Pc.r x3)) = (lat x.into (Fc.a f, Pc.r x3)) := List.take_of_length_le (by omega); rw [e9] at hS_l; exact hS_l)⟩ (by dsimp only; omega) ⟨rfl, rfl, rfl, rfl, rfl, rfl, rfl, rfl, trivial⟩ (pf_takeB (pf_cons pf_here) pf_lastB) (fun v _ h => by exact ⟨h.1, h.2.1, h.2.2.1, h.2.2.2.1, h.2.2.2.2.1, h.2.2.2.2.2.1, h.2.2.2.2.2.2.1, h.2.2.2.2.2.2.2.1, h.2.2.2.2.2.2.2.2.1, trivial⟩)
   ·
    replace hr3 := of_decide_eq_true hr3
    have hlx4 : l < List.length (lat x.into ((Fc.a f), (Pc.r x3))) := by omega
    obtain ⟨x4, hx4⟩ : ∃ e0, (lat x.into ((Fc.a f), (Pc.r x3)))[l]? = some e0 := ⟨_, List.getElem?_eq_getElem hlx4⟩
    have hmx4 : x4 ∈ (lat x.into ((Fc.a f), (Pc.r x3))) := List.mem_of_getElem? hx4
    refine run_cond_t rfl (run_skip (fin_next rfl (run_seq (run_block (run_seq (run_region (ops_val (yld_indexR Tryz.runUnderlying25 Tryz.sizeOf9 rfl rfl (fun v _ h => row_adr (n := 1) strC_len (by decide) (by exact (mlF_row h.2.2.2.2.2.1 ((Fc.a f), (Pc.r x3)))) hx4) (by omega) (by first | omega | (simp; done))) rfl ?_)))))))
    refine ops_val (yld_loadR (ad := (Prod.fst (A.i ((Fc.a f), (Pc.r x3))))) Tryz.isAgg9 rfl (fun v _ h => by exact (mlF_row h.2.2.2.2.2.1 ((Fc.a f), (Pc.r x3)))) (row_cells strC_len hx4 0 _ rfl)) rfl ?_
    refine ops_val (yld_assign rfl) rfl (ops_nil (fin_next rfl ?_))
    refine run_drawH ((b2, .cells #[.int .i64 (Pc.kind x3), str (Pc.a x3), str (Pc.b x3), str (Pc.c x3), str (Pc.r x3), str (Pc.s x3), str (Pc.t x3), .int .i64 (Pc.lo x3), .int .i64 (Pc.hi x3), .int .i64 (Pc.frm x3)] 47 (0, 0)) :: ((b1, .cells #[.int .i64 (Fc.kind f), str (Fc.a f), str (Fc.b f), str (Fc.r f), .int .i64 (Fc.lo f), .int .i64 (Fc.hi f)] 41 (0, 0)) :: [])) (by kernel_rfl) ?_
    refine any_sq 2 [0, 1, 2, 3, 4, 5, 6, 7, 8] (by kernel_rfl) (fun _ a b => ⟨Vw.sat.sub (a.perm (pf_takeB pf_here pf_here)), b⟩) ?_
    refine sq_val rfl (yld_move rfl) rfl ?_
    refine sq_val rfl (yld_nilck rfl) rfl ?_
    refine sq_val rfl (yld_field Tryz.runUnderlying94 rfl rfl rfl Tryz.sizeOf89) rfl ?_
    refine sq_val rfl (yld_loadO Tryz.isAgg89 rfl (fun v _ h => by exact h.1) rfl) rfl ?_
    refine sq_val rfl (yld_move rfl) rfl ?_
    refine sq_val rfl (yld_field Tryz.runUnderlying47 rfl rfl rfl Tryz.sizeOf9) rfl ?_
    refine sq_val rfl (yld_load 0 Tryz.isAgg9 rfl rfl rfl) rfl ?_
    refine sq_val rfl (yld_field Tryz.runUnderlying41 rfl rfl rfl Tryz.sizeOf9) rfl ?_
    refine sq_val rfl (yld_load 1 Tryz.isAgg9 rfl rfl rfl) rfl ?_
    refine sq_nil ?_
    refine any_one 9 rfl (by kernel_rfl) ?_
    refine ops_call (link_c x4 (Pc.t x3) (Fc.b f)) rfl pf_nil (fun _ _ _ => by exact trivial) rfl fun _ => ?_
    refine ops_nil (fin_inv rfl (any_next (fun _ a b => ⟨Vw.sat.sub (a.perm (pf_takeB pf_here pf_here)), b⟩) ?_))
    refine any_one 10 rfl (by kernel_rfl) ?_
    refine ops_calld (first := []) (cap := E.caps) (E.emit (flink x4 (Pc.t x3) (Fc.b f)) (emits E.stp (List.map (fun a => flink a (Pc.t x3) (Fc.b f)) (List.take l (lat x.into ((Fc.a f), (Pc.r x3))))) (emits E.stp (List.flatMap (fun y => List.map (fun a => flink a (Pc.t y) (Fc.b f)) (lat x.into (Fc.a f, Pc.r y))) (List.take k (lat pm (Ky.mk 6 [] (Fc.r f))))) (emits E.stp (chainL1 pm x f) nw))) fm Hs_l hS_l) rfl rfl (pf_cons pf_lastB) (fun v _ h => by exact ⟨h.2.2.2.2.2.2.2.2.1, trivial⟩) rfl fun ⟨Hs1, hS1⟩ => ?_
    dsimp only
    refine ops_nil (fin_inv rfl (any_next (fun _ a b => ⟨Vw.sat.sub (a.perm (pf_takeB (pf_app pf_here) pf_last)), b⟩) ?_))
    refine any_done (by kernel_rfl) ?_
    refine fin_next rfl (run_region (ops_val (yld_arith rfl rfl rfl (wrap64 (by omega) (by omega))) rfl ?_))
    refine ops_val (yld_move rfl) rfl (ops_nil (fin_inv rfl ?_))
    exact ok_again ⟨(l + 1, Hs1), hlx4, (by rw [map_step hx4, emits_append]; exact hS1)⟩ (by dsimp only; omega) ⟨rfl, rfl, rfl, rfl, rfl, rfl, rfl, rfl, rfl, rfl, rfl, rfl, trivial⟩ (pf_takeB (pf_app pf_here) (pf_takeB pf_last pf_end)) (fun v _ h => by exact ⟨h.1, h.2.1, h.2.2.1, h.2.2.2.1, h.2.2.2.2.1, h.2.2.2.2.2.1, h.2.2.2.2.2.2.1, h.2.2.2.2.2.2.2.1, h.2.2.2.2.2.2.2.2.1, trivial⟩)
 ·
  replace hr1 := of_decide_eq_true hr1
  have hlx1 : i < List.length (lat pm (Ky.mk 6 (Fc.r f) [])) := by omega
  obtain ⟨x1, hx1⟩ : ∃ e0, (lat pm (Ky.mk 6 (Fc.r f) []))[i]? = some e0 := ⟨_, List.getElem?_eq_getElem hlx1⟩
  have hmx1 : x1 ∈ (lat pm (Ky.mk 6 (Fc.r f) [])) := List.mem_of_getElem? hx1
  refine run_cond_t rfl (run_skip (fin_next rfl (run_seq (run_block (run_seq (run_region (ops_val (yld_indexR Tryz.runUnderlying22 Tryz.sizeOf47 rfl rfl (fun v _ h => row_adr (n := 10) Pc.cells_len (by decide) (by exact (mlF_row h.2.1 (Ky.mk 6 (Fc.r f) []))) hx1) (by omega) (by first | omega | (simp; done))) rfl ?_)))))))
  refine ops_val (yld_loadRS (ad := (Prod.fst (A.p (Ky.mk 6 (Fc.r f) [])))) (us := Pc.cells x1) Tryz.isAgg47 Tryz.sizeOf47 rfl (fun v _ h => by exact (mlF_row h.2.1 (Ky.mk 6 (Fc.r f) []))) (Pc.cells_len _) (row_cells Pc.cells_len hx1)) rfl ?_
  refine ops_alloc Tryz.zeroValue47 rfl fun b3 => ?_
  refine ops_store 0 Tryz.sizeOf47 rfl rfl rfl rfl rfl rfl ?_
  refine ops_nil (fin_next rfl (run_seq ?_))
  refine run_draw' (by kernel_rfl) ?_
  refine any_sq 0 [0, 1, 2, 3, 4, 5, 6, 7, 8, 9, 10, 11] (by kernel_rfl) (fun _ a b => ⟨a, b⟩) ?_
  refine sq_val rfl (yld_move rfl) rfl ?_
  refine sq_val rfl (yld_nilck rfl) rfl ?_
  refine sq_val rfl (yld_field Tryz.runUnderlying94 rfl rfl rfl Tryz.sizeOf91) rfl ?_
  refine sq_val rfl (yld_loadO Tryz.isAgg91 rfl (fun v _ h => by exact h.1) rfl) rfl ?_
  refine sq_val rfl (yld_field Tryz.runUnderlying41 rfl rfl rfl Tryz.sizeOf9) rfl ?_
  refine sq_val rfl (yld_load 1 Tryz.isAgg9 rfl rfl rfl) rfl ?_
  refine sq_val rfl (yld_field Tryz.runUnderlying47 rfl rfl rfl Tryz.sizeOf9) rfl ?_
  refine sq_val rfl (yld_load 0 Tryz.isAgg9 rfl rfl rfl) rfl ?_
  refine sq_val rfl (yld_struct strt145 rfl rfl) rfl ?_
  refine sq_val rfl (yld_lookF (k := ((Fc.b f), (Pc.s x1))) (adr := A.o) keySpot Tryz.runUnderlying91 Tryz.zeroValue25 rfl rfl (fun v _ h => by exact h.2.2.2.2.1)) rfl ?_
  refine sq_val rfl (yld_lenS Tryz.runUnderlying25 rfl) rfl ?_
  refine sq_val rfl (yld_move rfl) rfl ?_
  refine sq_nil ?_
  refine any_done (by kernel_rfl) ?_
  refine fin_next rfl (run_block (ok_fr [(0, .pointer (some ⟨B.g, 0, none⟩)), (3, .pointer (some ⟨b1, 0, none⟩)), (19, .slice (Prod.fst (A.p (Ky.mk 6 (Fc.r f) []))) (List.length (lat pm (Ky.mk 6 (Fc.r f) []))) (Prod.snd (A.p (Ky.mk 6 (Fc.r f) [])))), (20, .int .i64 (List.length (lat pm (Ky.mk 6 (Fc.r f) [])) : Int)), (21, .int .i64 (i : Int)), (5, .pointer (some ⟨b3, 0, none⟩)), (34, .slice (Prod.fst (A.o ((Fc.b f), (Pc.s x1)))) (List.length (lat x.frm ((Fc.b f), (Pc.s x1)))) (Prod.snd (A.o ((Fc.b f), (Pc.s x1))))), (35, .int .i64 (List.length (lat x.frm ((Fc.b f), (Pc.s x1))) : Int)), (36, .int .i64 ((0 : Nat) : Int))] ⟨rfl, rfl, rfl, rfl, rfl, rfl, rfl, rfl, rfl, trivial⟩ ?_))
  refine ok_weak (H' := ((b3, .cells #[.int .i64 (Pc.kind x1), str (Pc.a x1), str (Pc.b x1), str (Pc.c x1), str (Pc.r x1), str (Pc.s x1), str (Pc.t x1), .int .i64 (Pc.lo x1), .int .i64 (Pc.hi x1), .int .i64 (Pc.frm x1)] 47 (0, 0)) :: ((b1, .cells #[.int .i64 (Fc.kind f), str (Fc.a f), str (Fc.b f), str (Fc.r f), .int .i64 (Fc.lo f), .int .i64 (Fc.hi f)] 41 (0, 0)) :: Hs_i))) (Γ' := [gF B E, pF B pm A, aF B x A, uF B x A, oF B x A, iF B x A, rF B x A, sF B x A, E.ef]) (pf_takeB pf_here (pf_takeB pf_here pf_end)) (fun v _ h => by exact ⟨h.1, h.2.1, h.2.2.1, h.2.2.2.1, h.2.2.2.2.1, h.2.2.2.2.2.1, h.2.2.2.2.2.2.1, h.2.2.2.2.2.2.2.1, h.2.2.2.2.2.2.2.2.1, trivial⟩) ?_
  refine run_loop (ι := {y : Nat × Hp // y.1 ≤ List.length (lat x.frm ((Fc.b f), (Pc.s x1))) ∧ E.St (emits E.stp (List.map (fun a => flink (Fc.a f) (Pc.t x1) a) (List.take y.1 (lat x.frm ((Fc.b f), (Pc.s x1))))) (emits E.stp (List.flatMap (fun y => List.map (fun a => flink (Fc.a f) (Pc.t y) a) (lat x.frm (Fc.b f, Pc.s y))) (List.take i (lat pm (Ky.mk 6 (Fc.r f) [])))) nw)) fm y.2}) (fun y => [(0, .pointer (some ⟨B.g, 0, none⟩)), (3, .pointer (some ⟨b1, 0, none⟩)), (19, .slice (Prod.fst (A.p (Ky.mk 6 (Fc.r f) []))) (List.length (lat pm (Ky.mk 6 (Fc.r f) []))) (Prod.snd (A.p (Ky.mk 6 (Fc.r f) [])))), (20, .int .i64 (List.length (lat pm (Ky.mk 6 (Fc.r f) [])) : Int)), (21, .int .i64 (i : Int)), (5, .pointer (some ⟨b3, 0, none⟩)), (34, .slice (Prod.fst (A.o ((Fc.b f), (Pc.s x1)))) (List.length (lat x.frm ((Fc.b f), (Pc.s x1)))) (Prod.snd (A.o ((Fc.b f), (Pc.s x1))))), (35, .int .i64 (List.length (lat x.frm ((Fc.b f), (Pc.s x1))) : Int)), (36, .int .i64 (y.1.1 : Int))]) (fun y => ((b3, .cells #[.int .i64 (Pc.kind x1), str (Pc.a x1), str (Pc.b x1), str (Pc.c x1), str (Pc.r x1), str (Pc.s x1), str (Pc.t x1), .int .i64 (Pc.lo x1), .int .i64 (Pc.hi x1), .int .i64 (Pc.frm x1)] 47 (0, 0)) :: ((b1, .cells #[.int .i64 (Fc.kind f), str (Fc.a f), str (Fc.b f), str (Fc.r f), .int .i64 (Fc.lo f), .int .i64 (Fc.hi f)] 41 (0, 0)) :: y.1.2))) (fun y => [gF B E, pF B pm A, aF B x A, uF B x A, oF B x A, iF B x A, rF B x A, sF B x A, E.ef]) (fun y => List.length (lat x.frm ((Fc.b f), (Pc.s x1))) - y.1.1) ⟨((0 : Nat), Hs_i), by simp, by exact hS_i⟩ ?_
  rintro ⟨⟨j, Hs_j⟩, hi_j, hS_j⟩
  dsimp only at hi_j hS_j ⊢
  refine ok_fr [(0, .pointer (some ⟨B.g, 0, none⟩)), (3, .pointer (some ⟨b1, 0, none⟩)), (19, .slice (Prod.fst (A.p (Ky.mk 6 (Fc.r f) []))) (List.length (lat pm (Ky.mk 6 (Fc.r f) []))) (Prod.snd (A.p (Ky.mk 6 (Fc.r f) [])))), (20, .int .i64 (List.length (lat pm (Ky.mk 6 (Fc.r f) [])) : Int)), (21, .int .i64 (i : Int)), (5, .pointer (some ⟨b3, 0, none⟩)), (34, .slice (Prod.fst (A.o ((Fc.b f), (Pc.s x1)))) (List.length (lat x.frm ((Fc.b f), (Pc.s x1)))) (Prod.snd (A.o ((Fc.b f), (Pc.s x1))))), (35, .int .i64 (List.length (lat x.frm ((Fc.b f), (Pc.s x1))) : Int)), (36, .int .i64 (j : Int))] ⟨rfl, rfl, rfl, rfl, rfl, rfl, rfl, rfl, rfl, trivial⟩ ?_
  have hb_j := (hyl ((Fc.b f), (Pc.s x1))).1
  refine run_seq (run_region (ops_valB (yld_lss rfl rfl) rfl fun r4 hr4 => ?_))
  refine ops_nil (fin_next rfl (run_seq ?_))
  cases r4
  ·
   replace hr4 := of_decide_eq_false hr4
   refine run_cond_f rfl (run_exit rfl (fin_next rfl (run_region (ops_val (yld_arith rfl rfl rfl (wrap64 (by omega) (by omega))) rfl ?_))))
   refine ops_val (yld_move rfl) rfl (ops_nil (fin_inv rfl ?_))
   exact ok_again ⟨(i + 1, Hs_j), hlx1, (by rw [fmap_step hx1, emits_append]; have e9 : List.take j (lat x.frm (Fc.b f, Pc.s x1)) = (lat x.frm (Fc.b f, Pc.s x1)) := List.take_of_length_le (by omega); rw [e9] at hS_j; exact hS_j)⟩ (by dsimp only; omega) ⟨rfl, rfl, rfl, rfl, rfl, trivial⟩ (pf_takeB (pf_cons pf_here) pf_lastB) (fun v _ h => by exact ⟨h.1, h.2.1, h.2.2.1, h.2.2.2.1, h.2.2.2.2.1, h.2.2.2.2.2.1, h.2.2.2.2.2.2.1, h.2.2.2.2.2.2.2.1, h.2.2.2.2.2.2.2.2.1, trivial⟩)
  ·
   replace hr4 := of_decide_eq_true hr4
   have hlx2 : j < List.length (lat x.frm ((Fc.b f), (Pc.s x1))) := by omega
   obtain ⟨x2, hx2⟩ : ∃ e0, (lat x.frm ((Fc.b f), (Pc.s x1)))[j]? = some e0 := ⟨_, List.getElem?_eq_getElem hlx2⟩
   have hmx2 : x2 ∈ (lat x.frm ((Fc.b f), (Pc.s x1))) := List.mem_of_getElem? hx2
   refine run_cond_t rfl (run_skip (fin_next rfl (run_seq (run_block (run_seq (run_region (ops_val (yld_indexR Tryz.runUnderlying25 Tryz.sizeOf9 rfl rfl (fun v _ h => row_adr (n := 1) strC_len (by decide) (by exact (mlF_row h.2.2.2.2.1 ((Fc.b f), (Pc.s x1)))) hx2) (by omega) (by first | omega | (simp; done))) rfl ?_)))))))
   refine ops_val (yld_loadR (ad := (Prod.fst (A.o ((Fc.b f), (Pc.s x1))))) Tryz.isAgg9 rfl (fun v _ h => by exact (mlF_row h.2.2.2.2.1 ((Fc.b f), (Pc.s x1)))) (row_cells strC_len hx2 0 _ rfl)) rfl ?_
   refine ops_val (yld_assign rfl) rfl (ops_nil (fin_next rfl ?_))
   refine run_drawH ((b3, .cells #[.int .i64 (Pc.kind x1), str (Pc.a x1), str (Pc.b x1), str (Pc.c x1), str (Pc.r x1), str (Pc.s x1), str (Pc.t x1), .int .i64 (Pc.lo x1), .int .i64 (Pc.hi x1), .int .i64 (Pc.frm x1)] 47 (0, 0)) :: ((b1, .cells #[.int .i64 (Fc.kind f), str (Fc.a f), str (Fc.b f), str (Fc.r f), .int .i64 (Fc.lo f), .int .i64 (Fc.hi f)] 41 (0, 0)) :: [])) (by kernel_rfl) ?_
   refine any_sq 2 [0, 1, 2, 3, 4, 5, 6, 7, 8] (by kernel_rfl) (fun _ a b => ⟨Vw.sat.sub (a.perm (pf_takeB pf_here pf_here)), b⟩) ?_
   refine sq_val rfl (yld_move rfl) rfl ?_
   refine sq_val rfl (yld_nilck rfl) rfl ?_
   refine sq_val rfl (yld_field Tryz.runUnderlying94 rfl rfl rfl Tryz.sizeOf89) rfl ?_
   refine sq_val rfl (yld_loadO Tryz.isAgg89 rfl (fun v _ h => by exact h.1) rfl) rfl ?_
   refine sq_val rfl (yld_field Tryz.runUnderlying41 rfl rfl rfl Tryz.sizeOf9) rfl ?_
   refine sq_val rfl (yld_load 1 Tryz.isAgg9 rfl rfl rfl) rfl ?_
   refine sq_val rfl (yld_field Tryz.runUnderlying47 rfl rfl rfl Tryz.sizeOf9) rfl ?_
   refine sq_val rfl (yld_load 0 Tryz.isAgg9 rfl rfl rfl) rfl ?_
   refine sq_val rfl (yld_move rfl) rfl ?_
   refine sq_nil ?_
   refine any_one 9 rfl (by kernel_rfl) ?_
   refine ops_call (link_c (Fc.a f) (Pc.t x1) x2) rfl pf_nil (fun _ _ _ => by exact trivial) rfl fun _ => ?_
   refine ops_nil (fin_inv rfl (any_next (fun _ a b => ⟨Vw.sat.sub (a.perm (pf_takeB pf_here pf_here)), b⟩) ?_))
   refine any_one 10 rfl (by kernel_rfl) ?_
   refine ops_calld (first := []) (cap := E.caps) (E.emit (flink (Fc.a f) (Pc.t x1) x2) (emits E.stp (List.map (fun a => flink (Fc.a f) (Pc.t x1) a) (List.take j (lat x.frm ((Fc.b f), (Pc.s x1))))) (emits E.stp (List.flatMap (fun y => List.map (fun a => flink (Fc.a f) (Pc.t y) a) (lat x.frm (Fc.b f, Pc.s y))) (List.take i (lat pm (Ky.mk 6 (Fc.r f) [])))) nw)) fm Hs_j hS_j) rfl rfl (pf_cons pf_lastB) (fun v _ h => by exact ⟨h.2.2.2.2.2.2.2.2.1, trivial⟩) rfl fun ⟨Hs2, hS2⟩ => ?_
   dsimp only
   refine ops_nil (fin_inv rfl (any_next (fun _ a b => ⟨Vw.sat.sub (a.perm (pf_takeB (pf_app pf_here) pf_last)), b⟩) ?_))
   refine any_done (by kernel_rfl) ?_
   refine fin_next rfl (run_region (ops_val (yld_arith rfl rfl rfl (wrap64 (by omega) (by omega))) rfl ?_))
   refine ops_val (yld_move rfl) rfl (ops_nil (fin_inv rfl ?_))
   exact ok_again ⟨(j + 1, Hs2), hlx2, (by rw [map_step hx2, emits_append]; exact hS2)⟩ (by dsimp only; omega) ⟨rfl, rfl, rfl, rfl, rfl, rfl, rfl, rfl, rfl, trivial⟩ (pf_takeB (pf_app pf_here) (pf_takeB pf_last pf_end)) (fun v _ h => by exact ⟨h.1, h.2.1, h.2.2.1, h.2.2.2.1, h.2.2.2.2.1, h.2.2.2.2.2.1, h.2.2.2.2.2.2.1, h.2.2.2.2.2.2.2.1, h.2.2.2.2.2.2.2.2.1, trivial⟩)
theorem emptyAtom_c (B : EngB) (E : Emt Tryz.prog 41) (A : EngA) (pm : List (Ky × Pc)) (x : Ix) (f : Fc) (nw fm : List Fc) (Hs : Hp) (hS : E.St nw fm Hs) (hpl : ∀ k, (lat pm k).length ≤ 1000000000) (hxl : ∀ k, (lat x.above k).length ≤ 1000000000 ∧ (lat x.under k).length ≤ 1000000000) (hyl : ∀ k, (lat x.frm k).length ≤ 1000000000 ∧ (lat x.into k).length ≤ 1000000000 ∧ (lat x.ranges k).length ≤ 1000000000 ∧ (lat x.firms k).length ≤ 1000000000) : Tri Tryz.prog 104 #[.pointer (some ⟨B.g, 0, none⟩), Fc.val f] Hs [gF B E, pF B pm A, aF B x A, uF B x A, oF B x A, iF B x A, rF B x A, sF B x A, E.ef] (fun _ : {H' : Hp // E.St (emits E.stp (emptyAtomL x f) nw) fm H'} => .tuple #[]) (fun y => y.1) (fun _ => []) := by
 refine tri_of_body Tryz.func104 rfl rfl Tryz.ntmps104 rfl fun v0 => ?_
 refine run_seq (run_region (ops_box rfl rfl fun b1 => ?_))
 refine ops_nil (fin_next rfl (run_seq (run_region (ops_val (yld_field Tryz.runUnderlying41 rfl rfl rfl Tryz.sizeOf9) rfl ?_))))
 refine ops_val (yld_load 0 Tryz.isAgg9 rfl rfl rfl) rfl ?_
 refine ops_valB (yld_seql rfl rfl) rfl fun r1 hr1 => ?_
 refine ops_nil (fin_next rfl ?_)
 cases r1
 ·
  replace hr1 := ne_of_beq_false hr1
  refine run_cond_f rfl (run_skip (fin_end rfl ?_))
  exact end0 Tryz.results104 ⟨Hs, by unfold emptyAtomL; rw [if_neg (by assumption)]; exact hS⟩ rfl pf_lastB (fun _ _ _ => trivial)
 ·
  replace hr1 := eq_of_beq hr1
  refine run_cond_t rfl (run_seq ?_)
  refine run_draw' (by kernel_rfl) ?_
  refine any_sq 0 [0, 1, 2, 3, 4, 5, 6, 7, 8] (by kernel_rfl) (fun _ a b => ⟨a, b⟩) ?_
  refine sq_val rfl (yld_move rfl) rfl ?_
  refine sq_val rfl (yld_nilck rfl) rfl ?_
  refine sq_val rfl (yld_field Tryz.runUnderlying94 rfl rfl rfl Tryz.sizeOf90) rfl ?_
  refine sq_val rfl (yld_loadO Tryz.isAgg90 rfl (fun v _ h => by exact h.1) rfl) rfl ?_
  refine sq_val rfl (yld_field Tryz.runUnderlying41 rfl rfl rfl Tryz.sizeOf9) rfl ?_
  refine sq_val rfl (yld_load 0 Tryz.isAgg9 rfl rfl rfl) rfl ?_
  refine sq_val rfl (yld_lookF (k := (Fc.a f)) (adr := A.u) keyS Tryz.runUnderlying90 Tryz.zeroValue25 rfl rfl (fun v _ h => by exact h.2.2.2.1)) rfl ?_
  refine sq_val rfl (yld_lenS Tryz.runUnderlying25 rfl) rfl ?_
  refine sq_val rfl (yld_move rfl) rfl ?_
  refine sq_nil ?_
  refine any_done (by kernel_rfl) ?_
  refine fin_next rfl (run_block (ok_fr [(0, .pointer (some ⟨B.g, 0, none⟩)), (15, .slice (Prod.fst (A.u (Fc.a f))) (List.length (lat x.under (Fc.a f))) (Prod.snd (A.u (Fc.a f)))), (16, .int .i64 (List.length (lat x.under (Fc.a f)) : Int)), (17, .int .i64 ((0 : Nat) : Int))] ⟨rfl, rfl, rfl, rfl, trivial⟩ ?_))
  refine ok_weak (H' := (Hs)) (Γ' := [gF B E, pF B pm A, aF B x A, uF B x A, oF B x A, iF B x A, rF B x A, sF B x A, E.ef]) pf_lastB (fun v _ h => by exact ⟨h.1, h.2.1, h.2.2.1, h.2.2.2.1, h.2.2.2.2.1, h.2.2.2.2.2.1, h.2.2.2.2.2.2.1, h.2.2.2.2.2.2.2.1, h.2.2.2.2.2.2.2.2.1, trivial⟩) ?_
  refine run_loop (ι := {y : Nat × Hp // y.1 ≤ List.length (lat x.under (Fc.a f)) ∧ E.St (emits E.stp (List.map (fun a => fsub a [33]) (List.take y.1 (lat x.under (Fc.a f)))) nw) fm y.2}) (fun y => [(0, .pointer (some ⟨B.g, 0, none⟩)), (15, .slice (Prod.fst (A.u (Fc.a f))) (List.length (lat x.under (Fc.a f))) (Prod.snd (A.u (Fc.a f)))), (16, .int .i64 (List.length (lat x.under (Fc.a f)) : Int)), (17, .int .i64 (y.1.1 : Int))]) (fun y => (y.1.2)) (fun y => [gF B E, pF B pm A, aF B x A, uF B x A, oF B x A, iF B x A, rF B x A, sF B x A, E.ef]) (fun y => List.length (lat x.under (Fc.a f)) - y.1.1) ⟨((0 : Nat), Hs), by simp, by exact hS⟩ ?_
  rintro ⟨⟨i, Hs_i⟩, hi_i, hS_i⟩
  dsimp only at hi_i hS_i ⊢
  refine ok_fr [(0, .pointer (some ⟨B.g, 0, none⟩)), (15, .slice (Prod.fst (A.u (Fc.a f))) (List.length (lat x.under (Fc.a f))) (Prod.snd (A.u (Fc.a f)))), (16, .int .i64 (List.length (lat x.under (Fc.a f)) : Int)), (17, .int .i64 (i : Int))] ⟨rfl, rfl, rfl, rfl, trivial⟩ ?_
  have hb_i := (hxl (Fc.a f)).2
  refine run_seq (run_region (ops_valB (yld_lss rfl rfl) rfl fun r2 hr2 => ?_))
  refine ops_nil (fin_next rfl (run_seq ?_))
  cases r2
  ·
   replace hr2 := of_decide_eq_false hr2
   refine run_cond_f rfl (run_exit rfl (fin_end rfl ?_))
   exact end0 Tryz.results104 ⟨Hs_i, by unfold emptyAtomL; rw [if_pos (by assumption)]; rw [List.take_of_length_le (by omega)] at hS_i; exact hS_i⟩ rfl pf_end (fun _ _ _ => trivial)
  ·
   replace hr2 := of_decide_eq_true hr2
   have hlx1 : i < List.length (lat x.under (Fc.a f)) := by omega
   obtain ⟨x1, hx1⟩ : ∃ e0, (lat x.under (Fc.a f))[i]? = some e0 := ⟨_, List.getElem?_eq_getElem hlx1⟩
   have hmx1 : x1 ∈ (lat x.under (Fc.a f)) := List.mem_of_getElem? hx1
   refine run_cond_t rfl (run_skip (fin_next rfl (run_seq (run_block (run_seq (run_region (ops_val (yld_indexR Tryz.runUnderlying25 Tryz.sizeOf9 rfl rfl (fun v _ h => row_adr (n := 1) strC_len (by decide) (by exact (mlF_row h.2.2.2.1 (Fc.a f))) hx1) (by omega) (by first | omega | (simp; done))) rfl ?_)))))))
   refine ops_val (yld_loadR (ad := (Prod.fst (A.u (Fc.a f)))) Tryz.isAgg9 rfl (fun v _ h => by exact (mlF_row h.2.2.2.1 (Fc.a f))) (row_cells strC_len hx1 0 _ rfl)) rfl ?_
   refine ops_val (yld_assign rfl) rfl (ops_nil (fin_next rfl ?_))
   refine run_drawH ([]) (by kernel_rfl) ?_
   refine any_sq 2 [0, 1, 2, 3, 4] (by kernel_rfl) (fun _ a b => ⟨satNil a, b⟩) ?_
   refine sq_val rfl (yld_move rfl) rfl ?_
   refine sq_val rfl (yld_nilck rfl) rfl ?_
   refine sq_val rfl (yld_field Tryz.runUnderlying94 rfl rfl rfl Tryz.sizeOf89) rfl ?_
   refine sq_val rfl (yld_loadO Tryz.isAgg89 rfl (fun v _ h => by exact h.1) rfl) rfl ?_
   refine sq_val rfl (yld_move rfl) rfl ?_
   refine sq_nil ?_
   refine any_one 5 rfl (by kernel_rfl) ?_
   refine ops_call (sub_c x1 [33]) rfl pf_nil (fun _ _ _ => by exact trivial) rfl fun _ => ?_
   refine ok_perm pf_un ?_
   refine ops_nil (fin_inv rfl (any_next (fun _ a b => ⟨satNil a, b⟩) ?_))
   refine any_one 6 rfl (by kernel_rfl) ?_
   refine ops_calld (first := []) (cap := E.caps) (E.emit (fsub x1 [33]) (emits E.stp (List.map (fun a => fsub a [33]) (List.take i (lat x.under (Fc.a f)))) nw) fm Hs_i hS_i) rfl rfl pf_end (fun v _ h => by exact ⟨h.2.2.2.2.2.2.2.2.1, trivial⟩) rfl fun ⟨Hs1, hS1⟩ => ?_
   dsimp only
   refine ok_perm pf_bare ?_
   refine ops_nil (fin_inv rfl (any_next (fun _ a b => ⟨satNil a, b⟩) ?_))
   refine any_done (by kernel_rfl) ?_
   refine fin_next rfl (run_region (ops_val (yld_arith rfl rfl rfl (wrap64 (by omega) (by omega))) rfl ?_))
   refine ops_val (yld_move rfl) rfl (ops_nil (fin_inv rfl ?_))
   exact ok_again ⟨(i + 1, Hs1), hlx1, (by rw [map_step hx1, emits_append]; exact hS1)⟩ (by dsimp only; omega) ⟨rfl, rfl, rfl, rfl, trivial⟩ pf_end (fun v _ h => by exact ⟨h.1, h.2.1, h.2.2.1, h.2.2.2.1, h.2.2.2.2.1, h.2.2.2.2.2.1, h.2.2.2.2.2.2.1, h.2.2.2.2.2.2.2.1, h.2.2.2.2.2.2.2.2.1, trivial⟩)
theorem emptyLink_c (B : EngB) (E : Emt Tryz.prog 41) (A : EngA) (pm : List (Ky × Pc)) (x : Ix) (f : Fc) (nw fm : List Fc) (Hs : Hp) (hS : E.St nw fm Hs) (hpl : ∀ k, (lat pm k).length ≤ 1000000000) (hxl : ∀ k, (lat x.above k).length ≤ 1000000000 ∧ (lat x.under k).length ≤ 1000000000) (hyl : ∀ k, (lat x.frm k).length ≤ 1000000000 ∧ (lat x.into k).length ≤ 1000000000 ∧ (lat x.ranges k).length ≤ 1000000000 ∧ (lat x.firms k).length ≤ 1000000000) : Tri Tryz.prog 109 #[.pointer (some ⟨B.g, 0, none⟩), Fc.val f] Hs [gF B E, pF B pm A, aF B x A, uF B x A, oF B x A, iF B x A, rF B x A, sF B x A, E.ef] (fun _ : {H' : Hp // E.St (if fsub (Fc.b f) [33] ∈ E.kof nw then E.stp (fsub (Fc.a f) [33]) nw else nw) fm H'} => .tuple #[]) (fun y => y.1) (fun _ => []) := by
 refine tri_of_body Tryz.func109 rfl rfl Tryz.ntmps109 rfl fun v0 => ?_
 refine run_seq (run_region (ops_box rfl rfl fun b1 => ?_))
 refine ops_nil (fin_next rfl (run_seq ?_))
 refine run_draw' (by kernel_rfl) ?_
 refine any_sq 2 [0, 1, 2, 3, 4, 5] (by kernel_rfl) (fun _ a b => ⟨a, b⟩) ?_
 refine sq_val rfl (yld_move rfl) rfl ?_
 refine sq_val rfl (yld_nilck rfl) rfl ?_
 refine sq_val rfl (yld_field Tryz.runUnderlying94 rfl rfl rfl Tryz.sizeOf88) rfl ?_
 refine sq_val rfl (yld_loadO Tryz.isAgg88 rfl (fun v _ h => by exact h.1) rfl) rfl ?_
 refine sq_val rfl (yld_field Tryz.runUnderlying41 rfl rfl rfl Tryz.sizeOf9) rfl ?_
 refine sq_val rfl (yld_load 0 Tryz.isAgg9 rfl rfl rfl) rfl ?_
 refine sq_nil ?_
 refine any_one 6 rfl (by kernel_rfl) ?_
 refine ops_call (sub_c (Fc.b f) [33]) rfl pf_nil (fun _ _ _ => by exact trivial) rfl fun _ => ?_
 refine ops_nil (fin_inv rfl (any_next (fun _ a b => ⟨a, b⟩) ?_))
 refine any_sq 0 [7] (by kernel_rfl) (fun _ a b => ⟨a, b⟩) ?_
 refine sq_valB rfl (yld_known (f := (fsub (Fc.b f) [33])) hS keyFc Tryz.runUnderlying88 Tryz.zeroValue4 rfl rfl pf_lastB) rfl fun r1 hr1 => ?_
 refine sq_nil ?_
 refine any_done (by kernel_rfl) ?_
 refine fin_next rfl ?_
 cases r1
 ·
  replace hr1 := of_decide_eq_false hr1
  refine run_cond_f rfl (run_skip (fin_end rfl ?_))
  exact end0 Tryz.results109 ⟨Hs, by first | (rw [if_pos (by assumption)]; exact hS) | (rw [if_neg (by assumption)]; exact hS)⟩ rfl pf_lastB (fun _ _ _ => trivial)
 ·
  replace hr1 := of_decide_eq_true hr1
  refine run_cond_t rfl ?_
  refine run_drawH ((b1, .cells #[.int .i64 (Fc.kind f), str (Fc.a f), str (Fc.b f), str (Fc.r f), .int .i64 (Fc.lo f), .int .i64 (Fc.hi f)] 41 (0, 0)) :: []) (by kernel_rfl) ?_
  refine any_sq 2 [0, 1, 2, 3, 4, 5] (by kernel_rfl) (fun _ a b => ⟨Vw.sat.sub (a.perm pf_here), b⟩) ?_
  refine sq_val rfl (yld_move rfl) rfl ?_
  refine sq_val rfl (yld_nilck rfl) rfl ?_
  refine sq_val rfl (yld_field Tryz.runUnderlying94 rfl rfl rfl Tryz.sizeOf89) rfl ?_
  refine sq_val rfl (yld_loadO Tryz.isAgg89 rfl (fun v _ h => by exact h.1) rfl) rfl ?_
  refine sq_val rfl (yld_field Tryz.runUnderlying41 rfl rfl rfl Tryz.sizeOf9) rfl ?_
  refine sq_val rfl (yld_load 0 Tryz.isAgg9 rfl rfl rfl) rfl ?_
  refine sq_nil ?_
  refine any_one 6 rfl (by kernel_rfl) ?_
  refine ops_call (sub_c (Fc.a f) [33]) rfl pf_nil (fun _ _ _ => by exact trivial) rfl fun _ => ?_
  refine ops_nil (fin_inv rfl (any_next (fun _ a b => ⟨Vw.sat.sub (a.perm pf_here), b⟩) ?_))
  refine any_one 7 rfl (by kernel_rfl) ?_
  refine ops_calld (first := []) (cap := E.caps) (E.emit (fsub (Fc.a f) [33]) nw fm Hs hS) rfl rfl pf_lastB (fun v _ h => by exact ⟨h.2.2.2.2.2.2.2.2.1, trivial⟩) rfl fun ⟨Hs1, hS1⟩ => ?_
  dsimp only
  refine ops_nil (fin_inv rfl (any_next (fun _ a b => ⟨Vw.sat.sub (a.perm pf_last), b⟩) ?_))
  refine any_done (by kernel_rfl) ?_
  refine fin_end rfl ?_
  exact end0 Tryz.results109 ⟨Hs1, by first | (rw [if_pos (by assumption)]; exact hS1) | (rw [if_neg (by assumption)]; exact hS1)⟩ rfl pf_hereO (fun _ _ _ => trivial)
end Go.Proofs.YtpdbbglpbngeiaaGreatDoor
