/-
  Part of the proof of the law IncrementAxioms over this seat: the small logic, the data, the contracts of functions (no condition).
-/
import Derived.Test.YtpdbbglpbngeiaaGreatDoorQIncrementAxioms5
import Derived.Test.YtpdbbglpbngeiaaGreatDoorQIncrementAxioms3
import Derived.Test.YtpdbbglpbngeiaaGreatDoorQIncrementAxioms2
import Derived.Test.YtpdbbglpbngeiaaGreatDoorQIncrementAxioms4
set_option linter.unusedVariables false
set_option linter.unusedSimpArgs false
set_option linter.unusedSectionVars false
namespace Go.Vs
open Go Go.Sx
def Ky.cells (k : Ky) : List Value := [.int .i64 k.kind, str k.role, str k.atom]
theorem Ky.cells_len (k : Ky) : k.cells.length = 3 := rfl
def Ky.val (k : Ky) : Value := .agg k.cells.toArray
def ml_ (s : hD_) : List Value := [str s.1, str s.2]
def gw_ (s : hD_) : Value := .agg (ml_ s).toArray
def Ky.eqb (p q : Ky) : Bool := (p.kind == q.kind) && ((p.role == q.role) && ((p.atom == q.atom) && true))
theorem Ky.eqb_eq (p q : Ky) : p.eqb q = decide (p = q) := by
  rw [Bool.eq_iff_iff]; cases p; cases q; simp [Ky.eqb]
def sD_ (p q : hD_) : Bool := (p.1 == q.1) && ((p.2 == q.2) && true)
theorem qg_ (p q : hD_) : sD_ p q = decide (p = q) := by
  rw [Bool.eq_iff_iff]; cases p; cases q; simp [sD_]
theorem Fc.cells_one (p : Fc) : p.cells.all Value.oneCell' = true := rfl
end Go.Vs
namespace Go.Sx
open Go Go.Vs
structure Emt (P : Program) (tF : TypeId) where
  stp : Fc → List Fc → List Fc
  kof : List Fc → List Fc
  St : List Fc → List Fc → Hp → Prop
  fn : FuncId
  caps : List Value
  ef : Fct
  kb : Nat
  fb : Nat
  grows : Grows stp kof
  emit : ∀ f nw fm H, St nw fm H → Tri P fn (f.val :: caps).toArray H [ef] (fun _ : {H' : Hp // St (stp f nw) fm H'} => .tuple #[]) (fun y => y.1) (fun _ => [])
  known : ∀ {nw fm H}, St nw fm H → ∃ es c, (kb, Obj.map es c) ∈ H ∧ SetE Fc.val es (kof nw)
  firm : ∀ {nw fm H}, St nw fm H → ∃ es c q, (fb, Obj.map es c) ∈ H ∧ SetE Fc.val es q ∧ ∀ f, f ∈ q ↔ f ∈ fm
  setf : ∀ {nw fm H} (f : Fc), St nw fm H → ∃ es c q Hr, H.Perm ((fb, Obj.map es c) :: Hr) ∧ SetE Fc.val es q ∧ (∀ f, f ∈ q ↔ f ∈ fm) ∧ ∀ es' c', SetE Fc.val es' (if f ∈ q then q else q ++ [f]) → ∃ H', St nw (f :: fm) H' ∧ H'.Perm ((fb, Obj.map es' c') :: Hr)
section
variable {P : Program} {N : Nat} {v0 : Vw} {H0 : Hp} {R : Exit → Act → World → Prop} {K : List Kt} {fr : Fr} {H : Hp} {Γ : List Fct}
variable {ops : Array Oper} {l : List Oper} {d : Nat} {ty : TypeId} {ps : String} {af : Array Edge} {tF : TypeId} {E : Emt P tF} {nw fm : List Fc} {Hs F : Hp}
theorem jB_ {b : Nat} {o : Obj} {v : Vw} (hp : H.Perm (Hs ++ F)) (hm : (b, o) ∈ Hs) (h : v.sat H) : v.w.heap[b]? = some o := (h.own _ (hp.mem_iff.2 (List.mem_append_left _ hm))).1
theorem gZ_ {t et : TypeId} {x y : Operand} {f : Fc} (hS : E.St nw fm Hs) (hK : KeyT P tF Fc.val) (hu : ∀ w, (underlying t).run P w = .ok (.map tF et) w) (hz : ∀ w, (zeroValue et).run P w = .ok (.bool false) w) (hx : Fr.ev fr x = some (.map (some E.kb))) (hy : Fr.ev fr y = some f.val) (hp : H.Perm (Hs ++ F)) :
    Yld P N fr H Γ (.lookup t x y false) ty (.bool (decide (f ∈ E.kof nw))) := by
  obtain ⟨es, c, g1, g2⟩ := E.known hS
  exact ej_ hK hu hz hx hy g2 fun v h _ => jB_ hp g1 h
theorem ma_ {t et : TypeId} {x y : Operand} {f : Fc} (hS : E.St nw fm Hs) (hK : KeyT P tF Fc.val) (hu : ∀ w, (underlying t).run P w = .ok (.map tF et) w) (hz : ∀ w, (zeroValue et).run P w = .ok (.bool false) w) (hx : Fr.ev fr x = some (.map (some E.fb))) (hy : Fr.ev fr y = some f.val) (hp : H.Perm (Hs ++ F)) :
    Yld P N fr H Γ (.lookup t x y false) ty (.bool (decide (f ∈ fm))) := by
  obtain ⟨es, c, q, g1, g2, g3⟩ := E.firm hS
  have := ej_ (P := P) (N := N) (H := H) (Γ := Γ) (ty := ty) hK hu hz hx hy g2 fun v h _ => jB_ hp g1 h
  have e : decide (f ∈ q) = decide (f ∈ fm) := by rw [decide_eq_decide]; exact g3 f
  rw [← e]; exact this
theorem qB_ {o : Op} {t et : TypeId} {x y z : Operand} {f : Fc} (hS : E.St nw fm Hs) (hK : KeyT P tF Fc.val) (ho : o = .insert t x y z ∨ o = .mapUpdate t x y z) (hu : ∀ w, (underlying t).run P w = .ok (.map tF et) w)
    (hx : Fr.ev fr x = some (.map (some E.fb))) (hy : Fr.ev fr y = some f.val) (hz : Fr.ev fr z = some (.bool true)) (hp : H.Perm (Hs ++ F))
    (hk : ∀ Hs', E.St nw (f :: fm) Hs' → Ops P R N v0 H0 ops l K fr (Hs' ++ F) Γ) : Ops P R N v0 H0 ops (⟨none, o, ty, ps, af, none⟩ :: l) K fr H Γ := by
  obtain ⟨es, c, q, Hr, p1, p2, p3, p4⟩ := E.setf f hS
  refine at_ (H' := (E.fb, .map es c) :: (Hr ++ F)) (hp.trans (by have := p1.append_right F; simpa using this)) (fK_ 0 hK ho hu hx hy hz rfl p2 fun es' c' hs' => ?_)
  obtain ⟨H', q1, q2⟩ := p4 es' c' hs'
  simp only [List.set_cons_zero]
  exact at_ (by have := (q2.append_right F).symm; simpa using this) (hk H' q1)
end
structure EngB where
  g : Nat
  pb : Nat
  ab : Nat
  ub : Nat
  ob : Nat
  ib : Nat
  rb : Nat
  sb : Nat
  lad : Option Addr
  lcap : Nat
  lps : List Str
structure EngA where
  p : Ky → Option Addr × Nat
  a : Str → Option Addr × Nat
  u : Str → Option Addr × Nat
  o : hD_ → Option Addr × Nat
  i : hD_ → Option Addr × Nat
  r : hD_ → Option Addr × Nat
  s : hD_ → Option Addr × Nat
def EngB.cells (B : EngB) {P : Program} {tF : TypeId} (E : Emt P tF) : List Value :=
  [.map (some B.pb), .slice B.lad B.lps.length B.lcap, .map (some E.kb), .func (.func E.fn) #[] E.caps.toArray, .map (some B.ab), .map (some B.ub), .map (some B.ob), .map (some B.ib), .map (some B.rb), .map (some B.sb), .map (some E.fb)]
structure IxH where
  a : Hp
  u : Hp
  o : Hp
  i : Hp
  r : Hp
  s : Hp
def IxO (tS tF : TypeId) (B : EngB) (x : Ix) (y : IxH) : Prop :=
  dH_ str bg_ tS 1 x.above B.ab y.a ∧ dH_ str bg_ tS 1 x.under B.ub y.u ∧ dH_ gw_ bg_ tS 1 x.frm B.ob y.o ∧ dH_ gw_ bg_ tS 1 x.into B.ib y.i ∧ dH_ gw_ Fc.cells tF 6 x.ranges B.rb y.r ∧ dH_ gw_ Fc.cells tF 6 x.firms B.sb y.s
end Go.Sx
namespace Go.Proofs.YtpdbbglpbngeiaaGreatDoor
open Go Go.Sx Go.Proofs
attribute [local irreducible] Code.wp wpList wpAnyH
open Go.Vs
theorem eqKy (p q : Ky) (w : World) : (Op.equalIn 10000 171 (Ky.val p) (Ky.val q)).run Tryz.prog w = .ok (decide (p = q)) w := by
  have h := run_equalIn_struct (P := Tryz.prog) w 9999 171 (Ky.cells p).toArray (Ky.cells q).toArray (by simp only [Program.fieldsOf, Tryz.underlying171]) Tryz.stoodInHeld171
  refine h.trans ?_
  rw [← Ky.eqb_eq]
  simp only [Program.fieldsOf, Tryz.underlying171]
  exact cg_ rfl J_ rfl rfl (eqI Y_ w) (cg_ rfl w_ rfl rfl (eqS bo_ w) (cg_ rfl w_ rfl rfl (eqS bo_ w) (jd_ w)))
theorem eqSpot (p q : hD_) (w : World) : (Op.equalIn 10000 145 (gw_ p) (gw_ q)).run Tryz.prog w = .ok (decide (p = q)) w := by
  have h := run_equalIn_struct (P := Tryz.prog) w 9999 145 (ml_ p).toArray (ml_ q).toArray (by simp only [Program.fieldsOf, Tryz.underlying145]) Tryz.stoodInHeld145
  refine h.trans ?_
  rw [← qg_]
  simp only [Program.fieldsOf, Tryz.underlying145]
  exact cg_ rfl w_ rfl rfl (eqS bo_ w) (cg_ rfl w_ rfl rfl (eqS bo_ w) (jd_ w))
theorem okKy (p : Ky) : hs_ Tryz.prog 171 (Ky.val p) := fun e w => by
  have hi : ∀ (n : Int) (w : World), (Instr.checkKey e (9998 + 1) 3 (.int .i64 n)).run Tryz.prog w = .ok () w := fun n w => MapKept.run_checkKey (d := .int .i64) Y_ (by simp [MapKept.IsKey]) e 9998
  have hs : ∀ (n : Str) (w : World), (Instr.checkKey e (9998 + 1) 9 (str n)).run Tryz.prog w = .ok () w := fun n w => MapKept.run_checkKey (d := .string) bo_ (by simp [MapKept.IsKey, str]) e 9998
  refine ckF (n := 9999) Tryz.underlying171 fun f hf => ?_
  simp only [List.mem_cons, List.not_mem_nil, or_false] at hf
  rcases hf with rfl | rfl | rfl
  · exact ⟨rfl, J_, _, rfl, hi _⟩
  · exact ⟨rfl, w_, _, rfl, hs _⟩
  · exact ⟨rfl, w_, _, rfl, hs _⟩
theorem okSpot (p : hD_) : hs_ Tryz.prog 145 (gw_ p) := fun e w => by
  have hi : ∀ (n : Int) (w : World), (Instr.checkKey e (9998 + 1) 3 (.int .i64 n)).run Tryz.prog w = .ok () w := fun n w => MapKept.run_checkKey (d := .int .i64) Y_ (by simp [MapKept.IsKey]) e 9998
  have hs : ∀ (n : Str) (w : World), (Instr.checkKey e (9998 + 1) 9 (str n)).run Tryz.prog w = .ok () w := fun n w => MapKept.run_checkKey (d := .string) bo_ (by simp [MapKept.IsKey, str]) e 9998
  refine ckF (n := 9999) Tryz.underlying145 fun f hf => ?_
  simp only [List.mem_cons, List.not_mem_nil, or_false] at hf
  rcases hf with rfl | rfl
  · exact ⟨rfl, w_, _, rfl, hs _⟩
  · exact ⟨rfl, w_, _, rfl, hs _⟩
theorem okFc (p : Fc) : hs_ Tryz.prog 41 (Fc.val p) := fun e w => by
  have hi : ∀ (n : Int) (w : World), (Instr.checkKey e (9998 + 1) 3 (.int .i64 n)).run Tryz.prog w = .ok () w := fun n w => MapKept.run_checkKey (d := .int .i64) Y_ (by simp [MapKept.IsKey]) e 9998
  have hs : ∀ (n : Str) (w : World), (Instr.checkKey e (9998 + 1) 9 (str n)).run Tryz.prog w = .ok () w := fun n w => MapKept.run_checkKey (d := .string) bo_ (by simp [MapKept.IsKey, str]) e 9998
  refine ckF (n := 9999) Tryz.underlying41 fun f hf => ?_
  simp only [List.mem_cons, List.not_mem_nil, or_false] at hf
  rcases hf with rfl | rfl | rfl | rfl | rfl | rfl
  · exact ⟨rfl, J_, _, rfl, hi _⟩
  · exact ⟨rfl, w_, _, rfl, hs _⟩
  · exact ⟨rfl, w_, _, rfl, hs _⟩
  · exact ⟨rfl, w_, _, rfl, hs _⟩
  · exact ⟨rfl, J_, _, rfl, hi _⟩
  · exact ⟨rfl, J_, _, rfl, hi _⟩
theorem gy_ : KeyT Tryz.prog 171 Ky.val := fx_ (K := Ky) Tryz.underlying171 okKy (fun p q w => eqKy p q w) fun k => hQ_ (l := Ky.cells k) fun v hv => by
  simp only [Ky.cells, List.mem_cons, List.not_mem_nil, or_false] at hv
  rcases hv with rfl | rfl | rfl
  · exact es_ _ _
  · exact dv_ _ _
  · exact dv_ _ _
theorem cR_ : KeyT Tryz.prog 145 gw_ := fx_ (K := hD_) Tryz.underlying145 okSpot (fun p q w => eqSpot p q w) fun k => hQ_ (l := ml_ k) fun v hv => by
  simp only [ml_, List.mem_cons, List.not_mem_nil, or_false] at hv
  rcases hv with rfl | rfl
  · exact dv_ _ _
  · exact dv_ _ _
theorem gO_ : KeyT Tryz.prog 41 Fc.val := fx_ (K := Fc) Tryz.underlying41 okFc (fun p q w => eqFc p q w) fun k => hQ_ (l := Fc.cells k) fun v hv => by
  simp only [Fc.cells, List.mem_cons, List.not_mem_nil, or_false] at hv
  rcases hv with rfl | rfl | rfl | rfl | rfl | rfl
  · exact es_ _ _
  · exact dv_ _ _
  · exact dv_ _ _
  · exact dv_ _ _
  · exact es_ _ _
  · exact es_ _ _
theorem qN_ : KeyT Tryz.prog 47 Pc.val := fx_ (K := Pc) eS_ oF_ (fun p q w => eqPc p q w) fun k => hQ_ (l := Pc.cells k) fun v hv => by
  simp only [Pc.cells, List.mem_cons, List.not_mem_nil, or_false] at hv
  rcases hv with rfl | rfl | rfl | rfl | rfl | rfl | rfl | rfl | rfl | rfl
  · exact es_ _ _
  · exact dv_ _ _
  · exact dv_ _ _
  · exact dv_ _ _
  · exact dv_ _ _
  · exact dv_ _ _
  · exact dv_ _ _
  · exact es_ _ _
  · exact es_ _ _
  · exact es_ _ _
theorem hX_ : KeyT Tryz.prog 9 str := qL_ bo_
theorem lI_ : Elt Tryz.prog 26 41 6 72 := ki_ Tryz.underlying26 (z := .agg #[.int .i64 0, str [], str [], str [], .int .i64 0, .int .i64 0]) (by kernel_rfl) rfl (by decide)
theorem kh_ : Elt Tryz.prog 22 47 10 128 := ki_ Tryz.underlying22 (z := .agg #[.int .i64 0, str [], str [], str [], str [], str [], str [], .int .i64 0, .int .i64 0, .int .i64 0]) (by kernel_rfl) rfl (by decide)
theorem dt_ : Elt Tryz.prog 25 9 1 16 := ki_ gE_ (z := .string ⟨#[]⟩) (by kernel_rfl) rfl (by decide)
theorem ep_ : iY_ Tryz.prog 171 [(0, 1), (1, 1), (2, 1)] [.int .i64 0, str [], str []] := ⟨_, Tryz.zeroValue171, Tryz.runUnderlying171, fun w => by simp [H_, s_]⟩
theorem eU_ : iY_ Tryz.prog 145 [(0, 1), (1, 1)] [str [], str []] := ⟨_, cC_, Tryz.runUnderlying145, fun w => by simp [s_]⟩
theorem strt94 : iY_ Tryz.prog 94 [(0, 1), (1, 1), (2, 1), (3, 1), (4, 1), (5, 1), (6, 1), (7, 1), (8, 1), (9, 1), (10, 1)] [.map none, .slice none 0 0, .map none, .nilFunc, .map none, .map none, .map none, .map none, .map none, .map none, .map none] := ⟨_, Tryz.zeroValue94, D_, fun w => by simp [bJ_, dq_, bT_, aU_, hF_, dp_, sE_]⟩
theorem cO_ (s : Str) : (bg_ s).all Value.oneCell' = true := rfl
def gF (B : EngB) (E : Emt Tryz.prog 41) : Fct := dZ_ B.g (.cells (B.cells E).toArray 94 (0, 0))
def pF (B : EngB) (pm : List (Ky × Pc)) (A : EngA) : Fct := mlF Tryz.prog 171 Ky.val Pc.cells B.pb pm A.p
def aF (B : EngB) (x : Ix) (A : EngA) : Fct := mlF Tryz.prog 9 str bg_ B.ab x.above A.a
def uF (B : EngB) (x : Ix) (A : EngA) : Fct := mlF Tryz.prog 9 str bg_ B.ub x.under A.u
def oF (B : EngB) (x : Ix) (A : EngA) : Fct := mlF Tryz.prog 145 gw_ bg_ B.ob x.frm A.o
def iF (B : EngB) (x : Ix) (A : EngA) : Fct := mlF Tryz.prog 145 gw_ bg_ B.ib x.into A.i
def rF (B : EngB) (x : Ix) (A : EngA) : Fct := mlF Tryz.prog 145 gw_ Fc.cells B.rb x.ranges A.r
def sF (B : EngB) (x : Ix) (A : EngA) : Fct := mlF Tryz.prog 145 gw_ Fc.cells B.sb x.firms A.s
end Go.Proofs.YtpdbbglpbngeiaaGreatDoor
namespace Go.Proofs.YtpdbbglpbngeiaaGreatDoor
open Go Go.Sx Go.Proofs
attribute [local irreducible] Code.wp wpList wpAnyH
open Go.Vs
theorem ex_ {α β : Type} {g : α → β} {l : List α} {i : Nat} {x : α} (h : l[i]? = some x) : List.map g (List.take (i + 1) l) = List.map g (List.take i l) ++ [g x] := by
  rw [List.take_add_one, h, Option.toList_some, List.map_append]; rfl
theorem fs_ (a b : Str) : Fn0 Tryz.prog 89 #[str a, str b] (Fc.val (aG_ a b)) := by
  refine M_ Tryz.func89 rfl rfl Tryz.ntmps89 rfl fun v0 => ?_
  refine f_ (c_ (al_ bt_ rfl fun b1 => ?_))
  refine d_ (b_ rfl (f_ (c_ (a_ (h_ rfl) rfl (a_ (h_ rfl) rfl (a_ (ag_ nw_ rfl rfl) rfl (Z_ 0 X_ rfl rfl rfl rfl rfl rfl (d_ (b_ rfl ?_)))))))))
  refine B_ ?_
  exact dY_ () (fun aa v h1 h2 => fJ_ (us := Fc.cells (aG_ a b)) 0 Tryz.results89 au_ X_ rfl rfl rfl aa v h1 h2) W_ (fun _ _ _ => trivial)
theorem jR_ (a r b : Str) : Fn0 Tryz.prog 99 #[str a, str r, str b] (Fc.val (aP_ a r b)) := by
  refine M_ Tryz.func99 rfl rfl Tryz.ntmps99 rfl fun v0 => ?_
  refine f_ (c_ (al_ bt_ rfl fun b1 => ?_))
  refine d_ (b_ rfl (f_ (c_ (a_ (h_ rfl) rfl (a_ (h_ rfl) rfl (a_ (h_ rfl) rfl (a_ (ag_ nw_ rfl rfl) rfl (Z_ 0 X_ rfl rfl rfl rfl rfl rfl (d_ ?_)))))))))
  refine b_ rfl (B_ ?_)
  exact dY_ () (fun aa v h1 h2 => fJ_ (us := Fc.cells (aP_ a r b)) 0 Tryz.results99 au_ X_ rfl rfl rfl aa v h1 h2) W_ (fun _ _ _ => trivial)
theorem ny_ (a r : Str) (lo hi : Int) : Fn0 Tryz.prog 90 #[str a, str r, .int .i64 lo, .int .i64 hi] (Fc.val (aM_ a r lo hi)) := by
  refine M_ Tryz.func90 rfl rfl Tryz.ntmps90 rfl fun v0 => ?_
  refine f_ (c_ (al_ bt_ rfl fun b1 => ?_))
  refine d_ (b_ rfl (f_ (c_ (a_ (h_ rfl) rfl (a_ (h_ rfl) rfl (a_ (h_ rfl) rfl (a_ (h_ rfl) rfl (a_ (ag_ nw_ rfl rfl) rfl (Z_ 0 X_ rfl rfl rfl rfl rfl rfl ?_)))))))))
  refine d_ (b_ rfl (B_ ?_))
  exact dY_ () (fun aa v h1 h2 => fJ_ (us := Fc.cells (aM_ a r lo hi)) 0 Tryz.results90 au_ X_ rfl rfl rfl aa v h1 h2) W_ (fun _ _ _ => trivial)
theorem pK_ (B : EngB) (E : Emt Tryz.prog 41) (A : EngA) (pm : List (Ky × Pc)) (x : Ix) (f : Fc) (nw fm : List Fc) (Hs : Hp) (hS : E.St nw fm Hs) (hpl : ∀ k, (lat pm k).length ≤ 1000000000) (hxl : ∀ k, (lat x.above k).length ≤ 1000000000 ∧ (lat x.under k).length ≤ 1000000000) (hyl : ∀ k, (lat x.frm k).length ≤ 1000000000 ∧ (lat x.into k).length ≤ 1000000000 ∧ (lat x.ranges k).length ≤ 1000000000 ∧ (lat x.firms k).length ≤ 1000000000) : Tri Tryz.prog 100 #[zp_ B.g 0, Fc.val f] Hs [gF B E, pF B pm A, aF B x A, uF B x A, oF B x A, iF B x A, rF B x A, sF B x A, E.ef] (fun _ : {H' : Hp // E.St (emits E.stp (fU_ pm f) nw) fm H'} => .tuple #[]) (fun y => y.1) (fun _ => []) := by
  refine M_ Tryz.func100 rfl rfl Tryz.ntmps100 rfl fun v0 => ?_
  refine f_ (c_ (aF_ rfl rfl fun b1 => ?_))
  refine d_ (b_ rfl (f_ ?_))
  refine aN_ (by kernel_rfl) ?_
  refine ad_ 0 [0, 1, 2, 3, 4, 5, 6, 7, 8, 9] (by kernel_rfl) (fun _ a b => ⟨a, b⟩) (k_ rfl (h_ rfl) rfl (k_ rfl (af_ rfl) rfl (k_ rfl (j_ D_ rfl rfl rfl dq_) rfl (k_ rfl (aa_ ee_ rfl (fun v _ h => by exact h.1) rfl) rfl (k_ rfl (j_ u_ rfl rfl rfl s_) rfl (k_ rfl (q_ 0 w_ rfl rfl rfl) rfl (k_ rfl (ag_ ep_ rfl rfl) rfl (k_ rfl (ci_ (k := (Ky.mk 1 [] (Fc.b f))) (adr := A.p) gy_ cd_ cx_ rfl rfl (fun v _ h => by exact h.2.1)) rfl (k_ rfl (ah_ G_ rfl) rfl ?_)))))))))
  refine k_ rfl (h_ rfl) rfl (ac_ (ab_ (by kernel_rfl) (b_ rfl (S_ ?_))))
  refine aV_ (ι := {y : Nat × Hp // y.1 ≤ List.length (lat pm (Ky.mk 1 [] (Fc.b f))) ∧ E.St (emits E.stp (List.map (fun y => aG_ (Fc.a f) (Pc.c y)) (List.take y.1 (lat pm (Ky.mk 1 [] (Fc.b f))))) nw) fm y.2}) (fun y => [(0, zp_ B.g 0), (3, zp_ b1 0), (13, .slice (Prod.fst (A.p (Ky.mk 1 [] (Fc.b f)))) (List.length (lat pm (Ky.mk 1 [] (Fc.b f)))) (Prod.snd (A.p (Ky.mk 1 [] (Fc.b f))))), (14, .int .i64 (List.length (lat pm (Ky.mk 1 [] (Fc.b f))) : Int)), (15, .int .i64 (y.1.1 : Int))]) (fun y => ((b1, .cells (Fc.cells f).toArray 41 (0, 0)) :: y.1.2)) (fun y => [gF B E, pF B pm A, aF B x A, uF B x A, oF B x A, iF B x A, rF B x A, sF B x A, E.ef]) (fun y => List.length (lat pm (Ky.mk 1 [] (Fc.b f))) - y.1.1) ⟨((0 : Nat), Hs), by simp, by exact hS⟩ ⟨rfl, rfl, rfl, rfl, rfl, trivial⟩ (l_ i_ ba_) (fun _ _ h => h) ?_
  rintro ⟨⟨i, Hs_i⟩, hi_i, hS_i⟩
  dsimp only at hi_i hS_i ⊢
  have hb_i := hpl (Ky.mk 1 [] (Fc.b f))
  refine f_ (c_ (x_ (az_ rfl rfl) rfl fun r1 hr1 => ?_))
  refine d_ (b_ rfl (f_ ?_))
  cases r1
  · skip
    replace hr1 := of_decide_eq_false hr1
    refine p_ rfl (aD_ rfl (aO_ rfl ?_))
    exact cn_ Tryz.results100 ⟨Hs_i, by unfold fU_; rw [List.take_of_length_le (by omega)] at hS_i; exact hS_i⟩ rfl ai_ (fun _ _ _ => trivial)
  · skip
    replace hr1 := of_decide_eq_true hr1
    have hlx1 : i < List.length (lat pm (Ky.mk 1 [] (Fc.b f))) := by omega
    obtain ⟨x1, hx1⟩ : ∃ e0, (lat pm (Ky.mk 1 [] (Fc.b f)))[i]? = some e0 := ⟨_, List.getElem?_eq_getElem hlx1⟩
    have hmx1 : x1 ∈ (lat pm (Ky.mk 1 [] (Fc.b f))) := List.mem_of_getElem? hx1
    refine n_ rfl (A_ (b_ rfl (f_ (S_ (f_ (c_ (a_ (ak_ G_ U_ rfl rfl (fun v _ h => aL_ (n := 10) Pc.cells_len (by decide) (by exact (bI_ h.2.1 (Ky.mk 1 [] (Fc.b f)))) hx1) (by omega) (by first | omega | (simp; done))) rfl (a_ (aE_ (ad := (Prod.fst (A.p (Ky.mk 1 [] (Fc.b f))))) (us := Pc.cells x1) bh_ U_ rfl (fun v _ h => by exact (bI_ h.2.1 (Ky.mk 1 [] (Fc.b f)))) (Pc.cells_len _) (an_ Pc.cells_len hx1)) rfl (al_ ap_ rfl fun b2 => ?_)))))))))
    refine Z_ 0 U_ rfl rfl rfl rfl rfl rfl (d_ (b_ rfl ?_))
    refine aC_ ((b2, .cells (Pc.cells x1).toArray 47 (0, 0)) :: ((b1, .cells (Fc.cells f).toArray 41 (0, 0)) :: [])) (by kernel_rfl) ?_
    refine ad_ 2 [0, 1, 2, 3, 4, 5, 6, 7] (by kernel_rfl) (fun _ a b => ⟨Vw.sat.sub (a.perm (l_ i_ i_)), b⟩) (k_ rfl (h_ rfl) rfl (k_ rfl (af_ rfl) rfl (k_ rfl (j_ D_ rfl rfl rfl aU_) rfl (k_ rfl (aa_ bz_ rfl (fun v _ h => by exact h.1) rfl) rfl (k_ rfl (j_ u_ rfl rfl rfl s_) rfl (k_ rfl (q_ 1 w_ rfl rfl rfl) rfl (k_ rfl (j_ F_ rfl rfl rfl s_) rfl (k_ rfl (q_ 0 w_ rfl rfl rfl) rfl (ac_ ?_)))))))))
    refine O_ 8 rfl (by kernel_rfl) (Q_ (fs_ (Fc.a f) (Pc.c x1)) rfl W_ (fun _ _ _ => by exact trivial) rfl fun _ => ?_)
    refine d_ (r_ rfl (C_ (fun _ a b => ⟨Vw.sat.sub (a.perm (l_ i_ i_)), b⟩) (O_ 9 rfl (by kernel_rfl) (aH_ (first := []) (cap := E.caps) (E.emit (aG_ (Fc.a f) (Pc.c x1)) (emits E.stp (List.map (fun y => aG_ (Fc.a f) (Pc.c y)) (List.take i (lat pm (Ky.mk 1 [] (Fc.b f))))) nw) fm Hs_i hS_i) rfl rfl (e_ ai_) (fun v _ h => by exact ⟨h.2.2.2.2.2.2.2.2.1, trivial⟩) rfl fun ⟨Hs1, hS1⟩ => ?_))))
    dsimp only
    refine d_ (r_ rfl (C_ (fun _ a b => ⟨Vw.sat.sub (a.perm (l_ (m_ i_) be_)), b⟩) (ab_ (by kernel_rfl) (b_ rfl (c_ (a_ (V_ rfl rfl rfl (aq_ (by omega) (by omega))) rfl (a_ (h_ rfl) rfl (d_ (r_ rfl ?_)))))))))
    exact ao_ ⟨(i + 1, Hs1), hlx1, (by rw [ex_ hx1, aQ_]; exact hS1)⟩ (by dsimp only; omega) ⟨rfl, rfl, rfl, rfl, rfl, trivial⟩ (l_ (m_ (e_ i_)) z_) (fun _ _ h => h)
theorem some_c (B : EngB) (E : Emt Tryz.prog 41) (A : EngA) (pm : List (Ky × Pc)) (x : Ix) (f : Fc) (nw fm : List Fc) (Hs : Hp) (hS : E.St nw fm Hs) (hpl : ∀ k, (lat pm k).length ≤ 1000000000) (hxl : ∀ k, (lat x.above k).length ≤ 1000000000 ∧ (lat x.under k).length ≤ 1000000000) (hyl : ∀ k, (lat x.frm k).length ≤ 1000000000 ∧ (lat x.into k).length ≤ 1000000000 ∧ (lat x.ranges k).length ≤ 1000000000 ∧ (lat x.firms k).length ≤ 1000000000) : Tri Tryz.prog 102 #[zp_ B.g 0, Fc.val f] Hs [gF B E, pF B pm A, aF B x A, uF B x A, oF B x A, iF B x A, rF B x A, sF B x A, E.ef] (fun _ : {H' : Hp // E.St (emits E.stp (kD_ pm f) nw) fm H'} => .tuple #[]) (fun y => y.1) (fun _ => []) := by
  refine M_ Tryz.func102 rfl rfl Tryz.ntmps102 rfl fun v0 => ?_
  refine f_ (c_ (aF_ rfl rfl fun b1 => ?_))
  refine d_ (b_ rfl (f_ ?_))
  refine aN_ (by kernel_rfl) ?_
  refine ad_ 0 [0, 1, 2, 3, 4, 5, 6, 7, 8, 9] (by kernel_rfl) (fun _ a b => ⟨a, b⟩) (k_ rfl (h_ rfl) rfl (k_ rfl (af_ rfl) rfl (k_ rfl (j_ D_ rfl rfl rfl dq_) rfl (k_ rfl (aa_ ee_ rfl (fun v _ h => by exact h.1) rfl) rfl (k_ rfl (j_ u_ rfl rfl rfl s_) rfl (k_ rfl (q_ 0 w_ rfl rfl rfl) rfl (k_ rfl (ag_ ep_ rfl rfl) rfl (k_ rfl (ci_ (k := (Ky.mk 3 [] (Fc.b f))) (adr := A.p) gy_ cd_ cx_ rfl rfl (fun v _ h => by exact h.2.1)) rfl (k_ rfl (ah_ G_ rfl) rfl ?_)))))))))
  refine k_ rfl (h_ rfl) rfl (ac_ (ab_ (by kernel_rfl) (b_ rfl (S_ ?_))))
  refine aV_ (ι := {y : Nat × Hp // y.1 ≤ List.length (lat pm (Ky.mk 3 [] (Fc.b f))) ∧ E.St (emits E.stp (List.map (fun y => aP_ (Fc.a f) (Pc.r y) (Pc.c y)) (List.take y.1 (lat pm (Ky.mk 3 [] (Fc.b f))))) nw) fm y.2}) (fun y => [(0, zp_ B.g 0), (3, zp_ b1 0), (13, .slice (Prod.fst (A.p (Ky.mk 3 [] (Fc.b f)))) (List.length (lat pm (Ky.mk 3 [] (Fc.b f)))) (Prod.snd (A.p (Ky.mk 3 [] (Fc.b f))))), (14, .int .i64 (List.length (lat pm (Ky.mk 3 [] (Fc.b f))) : Int)), (15, .int .i64 (y.1.1 : Int))]) (fun y => ((b1, .cells (Fc.cells f).toArray 41 (0, 0)) :: y.1.2)) (fun y => [gF B E, pF B pm A, aF B x A, uF B x A, oF B x A, iF B x A, rF B x A, sF B x A, E.ef]) (fun y => List.length (lat pm (Ky.mk 3 [] (Fc.b f))) - y.1.1) ⟨((0 : Nat), Hs), by simp, by exact hS⟩ ⟨rfl, rfl, rfl, rfl, rfl, trivial⟩ (l_ i_ ba_) (fun _ _ h => h) ?_
  rintro ⟨⟨i, Hs_i⟩, hi_i, hS_i⟩
  dsimp only at hi_i hS_i ⊢
  have hb_i := hpl (Ky.mk 3 [] (Fc.b f))
  refine f_ (c_ (x_ (az_ rfl rfl) rfl fun r1 hr1 => ?_))
  refine d_ (b_ rfl (f_ ?_))
  cases r1
  · skip
    replace hr1 := of_decide_eq_false hr1
    refine p_ rfl (aD_ rfl (aO_ rfl ?_))
    exact cn_ Tryz.results102 ⟨Hs_i, by unfold kD_; rw [List.take_of_length_le (by omega)] at hS_i; exact hS_i⟩ rfl ai_ (fun _ _ _ => trivial)
  · skip
    replace hr1 := of_decide_eq_true hr1
    have hlx1 : i < List.length (lat pm (Ky.mk 3 [] (Fc.b f))) := by omega
    obtain ⟨x1, hx1⟩ : ∃ e0, (lat pm (Ky.mk 3 [] (Fc.b f)))[i]? = some e0 := ⟨_, List.getElem?_eq_getElem hlx1⟩
    have hmx1 : x1 ∈ (lat pm (Ky.mk 3 [] (Fc.b f))) := List.mem_of_getElem? hx1
    refine n_ rfl (A_ (b_ rfl (f_ (S_ (f_ (c_ (a_ (ak_ G_ U_ rfl rfl (fun v _ h => aL_ (n := 10) Pc.cells_len (by decide) (by exact (bI_ h.2.1 (Ky.mk 3 [] (Fc.b f)))) hx1) (by omega) (by first | omega | (simp; done))) rfl (a_ (aE_ (ad := (Prod.fst (A.p (Ky.mk 3 [] (Fc.b f))))) (us := Pc.cells x1) bh_ U_ rfl (fun v _ h => by exact (bI_ h.2.1 (Ky.mk 3 [] (Fc.b f)))) (Pc.cells_len _) (an_ Pc.cells_len hx1)) rfl (al_ ap_ rfl fun b2 => ?_)))))))))
    refine Z_ 0 U_ rfl rfl rfl rfl rfl rfl (d_ (b_ rfl ?_))
    refine aC_ ((b2, .cells (Pc.cells x1).toArray 47 (0, 0)) :: ((b1, .cells (Fc.cells f).toArray 41 (0, 0)) :: [])) (by kernel_rfl) ?_
    refine ad_ 2 [0, 1, 2, 3, 4, 5, 6, 7, 8, 9] (by kernel_rfl) (fun _ a b => ⟨Vw.sat.sub (a.perm (l_ i_ i_)), b⟩) (k_ rfl (h_ rfl) rfl (k_ rfl (af_ rfl) rfl (k_ rfl (j_ D_ rfl rfl rfl aU_) rfl (k_ rfl (aa_ bz_ rfl (fun v _ h => by exact h.1) rfl) rfl (k_ rfl (j_ u_ rfl rfl rfl s_) rfl (k_ rfl (q_ 1 w_ rfl rfl rfl) rfl (k_ rfl (j_ F_ rfl rfl rfl s_) rfl (k_ rfl (q_ 0 w_ rfl rfl rfl) rfl (k_ rfl (j_ F_ rfl rfl rfl s_) rfl ?_)))))))))
    refine k_ rfl (q_ 0 w_ rfl rfl rfl) rfl (ac_ (O_ 10 rfl (by kernel_rfl) (Q_ (jR_ (Fc.a f) (Pc.r x1) (Pc.c x1)) rfl W_ (fun _ _ _ => by exact trivial) rfl fun _ => ?_)))
    refine d_ (r_ rfl (C_ (fun _ a b => ⟨Vw.sat.sub (a.perm (l_ i_ i_)), b⟩) (O_ 11 rfl (by kernel_rfl) (aH_ (first := []) (cap := E.caps) (E.emit (aP_ (Fc.a f) (Pc.r x1) (Pc.c x1)) (emits E.stp (List.map (fun y => aP_ (Fc.a f) (Pc.r y) (Pc.c y)) (List.take i (lat pm (Ky.mk 3 [] (Fc.b f))))) nw) fm Hs_i hS_i) rfl rfl (e_ ai_) (fun v _ h => by exact ⟨h.2.2.2.2.2.2.2.2.1, trivial⟩) rfl fun ⟨Hs1, hS1⟩ => ?_))))
    dsimp only
    refine d_ (r_ rfl (C_ (fun _ a b => ⟨Vw.sat.sub (a.perm (l_ (m_ i_) be_)), b⟩) (ab_ (by kernel_rfl) (b_ rfl (c_ (a_ (V_ rfl rfl rfl (aq_ (by omega) (by omega))) rfl (a_ (h_ rfl) rfl (d_ (r_ rfl ?_)))))))))
    exact ao_ ⟨(i + 1, Hs1), hlx1, (by rw [ex_ hx1, aQ_]; exact hS1)⟩ (by dsimp only; omega) ⟨rfl, rfl, rfl, rfl, rfl, trivial⟩ (l_ (m_ (e_ i_)) z_) (fun _ _ h => h)
theorem pF_ (B : EngB) (E : Emt Tryz.prog 41) (A : EngA) (pm : List (Ky × Pc)) (x : Ix) (f : Fc) (nw fm : List Fc) (Hs : Hp) (hS : E.St nw fm Hs) (hpl : ∀ k, (lat pm k).length ≤ 1000000000) (hxl : ∀ k, (lat x.above k).length ≤ 1000000000 ∧ (lat x.under k).length ≤ 1000000000) (hyl : ∀ k, (lat x.frm k).length ≤ 1000000000 ∧ (lat x.into k).length ≤ 1000000000 ∧ (lat x.ranges k).length ≤ 1000000000 ∧ (lat x.firms k).length ≤ 1000000000) : Tri Tryz.prog 106 #[zp_ B.g 0, Fc.val f] Hs [gF B E, pF B pm A, aF B x A, uF B x A, oF B x A, iF B x A, rF B x A, sF B x A, E.ef] (fun _ : {H' : Hp // E.St (emits E.stp (fR_ pm f) nw) fm H'} => .tuple #[]) (fun y => y.1) (fun _ => []) := by
  refine M_ Tryz.func106 rfl rfl Tryz.ntmps106 rfl fun v0 => ?_
  refine f_ (c_ (aF_ rfl rfl fun b1 => ?_))
  refine d_ (b_ rfl (f_ ?_))
  refine aN_ (by kernel_rfl) ?_
  refine ad_ 0 [0, 1, 2, 3, 4, 5, 6, 7, 8, 9] (by kernel_rfl) (fun _ a b => ⟨a, b⟩) (k_ rfl (h_ rfl) rfl (k_ rfl (af_ rfl) rfl (k_ rfl (j_ D_ rfl rfl rfl dq_) rfl (k_ rfl (aa_ ee_ rfl (fun v _ h => by exact h.1) rfl) rfl (k_ rfl (j_ u_ rfl rfl rfl s_) rfl (k_ rfl (q_ 0 w_ rfl rfl rfl) rfl (k_ rfl (ag_ ep_ rfl rfl) rfl (k_ rfl (ci_ (k := (Ky.mk 5 (Fc.r f) [])) (adr := A.p) gy_ cd_ cx_ rfl rfl (fun v _ h => by exact h.2.1)) rfl (k_ rfl (ah_ G_ rfl) rfl ?_)))))))))
  refine k_ rfl (h_ rfl) rfl (ac_ (ab_ (by kernel_rfl) (b_ rfl (S_ ?_))))
  refine aV_ (ι := {y : Nat × Hp // y.1 ≤ List.length (lat pm (Ky.mk 5 (Fc.r f) [])) ∧ E.St (emits E.stp (List.map (fun y => aP_ (Fc.a f) (Pc.t y) (Fc.b f)) (List.take y.1 (lat pm (Ky.mk 5 (Fc.r f) [])))) nw) fm y.2}) (fun y => [(0, zp_ B.g 0), (3, zp_ b1 0), (13, .slice (Prod.fst (A.p (Ky.mk 5 (Fc.r f) []))) (List.length (lat pm (Ky.mk 5 (Fc.r f) []))) (Prod.snd (A.p (Ky.mk 5 (Fc.r f) [])))), (14, .int .i64 (List.length (lat pm (Ky.mk 5 (Fc.r f) [])) : Int)), (15, .int .i64 (y.1.1 : Int))]) (fun y => ((b1, .cells (Fc.cells f).toArray 41 (0, 0)) :: y.1.2)) (fun y => [gF B E, pF B pm A, aF B x A, uF B x A, oF B x A, iF B x A, rF B x A, sF B x A, E.ef]) (fun y => List.length (lat pm (Ky.mk 5 (Fc.r f) [])) - y.1.1) ⟨((0 : Nat), Hs), by simp, by exact hS⟩ ⟨rfl, rfl, rfl, rfl, rfl, trivial⟩ (l_ i_ ba_) (fun _ _ h => h) ?_
  rintro ⟨⟨i, Hs_i⟩, hi_i, hS_i⟩
  dsimp only at hi_i hS_i ⊢
  have hb_i := hpl (Ky.mk 5 (Fc.r f) [])
  refine f_ (c_ (x_ (az_ rfl rfl) rfl fun r1 hr1 => ?_))
  refine d_ (b_ rfl (f_ ?_))
  cases r1
  · skip
    replace hr1 := of_decide_eq_false hr1
    refine p_ rfl (aD_ rfl (aO_ rfl ?_))
    exact cn_ Tryz.results106 ⟨Hs_i, by unfold fR_; rw [List.take_of_length_le (by omega)] at hS_i; exact hS_i⟩ rfl ai_ (fun _ _ _ => trivial)
  · skip
    replace hr1 := of_decide_eq_true hr1
    have hlx1 : i < List.length (lat pm (Ky.mk 5 (Fc.r f) [])) := by omega
    obtain ⟨x1, hx1⟩ : ∃ e0, (lat pm (Ky.mk 5 (Fc.r f) []))[i]? = some e0 := ⟨_, List.getElem?_eq_getElem hlx1⟩
    have hmx1 : x1 ∈ (lat pm (Ky.mk 5 (Fc.r f) [])) := List.mem_of_getElem? hx1
    refine n_ rfl (A_ (b_ rfl (f_ (S_ (f_ (c_ (a_ (ak_ G_ U_ rfl rfl (fun v _ h => aL_ (n := 10) Pc.cells_len (by decide) (by exact (bI_ h.2.1 (Ky.mk 5 (Fc.r f) []))) hx1) (by omega) (by first | omega | (simp; done))) rfl (a_ (aE_ (ad := (Prod.fst (A.p (Ky.mk 5 (Fc.r f) [])))) (us := Pc.cells x1) bh_ U_ rfl (fun v _ h => by exact (bI_ h.2.1 (Ky.mk 5 (Fc.r f) []))) (Pc.cells_len _) (an_ Pc.cells_len hx1)) rfl (al_ ap_ rfl fun b2 => ?_)))))))))
    refine Z_ 0 U_ rfl rfl rfl rfl rfl rfl (d_ (b_ rfl ?_))
    refine aC_ ((b2, .cells (Pc.cells x1).toArray 47 (0, 0)) :: ((b1, .cells (Fc.cells f).toArray 41 (0, 0)) :: [])) (by kernel_rfl) ?_
    refine ad_ 2 [0, 1, 2, 3, 4, 5, 6, 7, 8, 9] (by kernel_rfl) (fun _ a b => ⟨Vw.sat.sub (a.perm (l_ i_ i_)), b⟩) (k_ rfl (h_ rfl) rfl (k_ rfl (af_ rfl) rfl (k_ rfl (j_ D_ rfl rfl rfl aU_) rfl (k_ rfl (aa_ bz_ rfl (fun v _ h => by exact h.1) rfl) rfl (k_ rfl (j_ u_ rfl rfl rfl s_) rfl (k_ rfl (q_ 1 w_ rfl rfl rfl) rfl (k_ rfl (j_ F_ rfl rfl rfl s_) rfl (k_ rfl (q_ 0 w_ rfl rfl rfl) rfl (k_ rfl (j_ u_ rfl rfl rfl s_) rfl ?_)))))))))
    refine k_ rfl (q_ 1 w_ rfl rfl rfl) rfl (ac_ (O_ 10 rfl (by kernel_rfl) (Q_ (jR_ (Fc.a f) (Pc.t x1) (Fc.b f)) rfl W_ (fun _ _ _ => by exact trivial) rfl fun _ => ?_)))
    refine d_ (r_ rfl (C_ (fun _ a b => ⟨Vw.sat.sub (a.perm (l_ i_ i_)), b⟩) (O_ 11 rfl (by kernel_rfl) (aH_ (first := []) (cap := E.caps) (E.emit (aP_ (Fc.a f) (Pc.t x1) (Fc.b f)) (emits E.stp (List.map (fun y => aP_ (Fc.a f) (Pc.t y) (Fc.b f)) (List.take i (lat pm (Ky.mk 5 (Fc.r f) [])))) nw) fm Hs_i hS_i) rfl rfl (e_ ai_) (fun v _ h => by exact ⟨h.2.2.2.2.2.2.2.2.1, trivial⟩) rfl fun ⟨Hs1, hS1⟩ => ?_))))
    dsimp only
    refine d_ (r_ rfl (C_ (fun _ a b => ⟨Vw.sat.sub (a.perm (l_ (m_ i_) be_)), b⟩) (ab_ (by kernel_rfl) (b_ rfl (c_ (a_ (V_ rfl rfl rfl (aq_ (by omega) (by omega))) rfl (a_ (h_ rfl) rfl (d_ (r_ rfl ?_)))))))))
    exact ao_ ⟨(i + 1, Hs1), hlx1, (by rw [ex_ hx1, aQ_]; exact hS1)⟩ (by dsimp only; omega) ⟨rfl, rfl, rfl, rfl, rfl, trivial⟩ (l_ (m_ (e_ i_)) z_) (fun _ _ h => h)
theorem fS_ {α β : Type} {g : α → List β} {l : List α} {i : Nat} {x : α} (h : l[i]? = some x) : List.flatMap g (List.take (i + 1) l) = List.flatMap g (List.take i l) ++ g x := by
  rw [List.take_add_one, h, Option.toList_some, List.flatMap_append]; simp
theorem iD_ {stp : Fc → List Fc → List Fc} {kof : List Fc → List Fc} {f : Fc} {l : List Pc} {i : Nat} {x : Pc} {s : List Fc} (h : l[i]? = some x) : eg_ stp kof f (List.take (i + 1) l) s = if aG_ f.a x.a ∈ kof (eg_ stp kof f (List.take i l) s) ∧ aG_ f.a x.b ∈ kof (eg_ stp kof f (List.take i l) s) then stp (aG_ f.a x.c) (eg_ stp kof f (List.take i l) s) else eg_ stp kof f (List.take i l) s := by
  unfold eg_
  rw [List.take_add_one, h, Option.toList_some, List.foldl_append]; rfl
theorem jj_ {stp : Fc → List Fc → List Fc} {kof : List Fc → List Fc} {f : Fc} {l : List Pc} {i : Nat} {x : Pc} {s : List Fc × List Fc} (h : l[i]? = some x) : cq_ stp kof f (List.take (i + 1) l) s = (stp (aM_ f.a x.r x.lo x.hi) (cq_ stp kof f (List.take i l) s).1, if aM_ f.a x.r x.lo x.hi ∈ kof (cq_ stp kof f (List.take i l) s).1 then (cq_ stp kof f (List.take i l) s).2 else aM_ f.a x.r x.lo x.hi :: (cq_ stp kof f (List.take i l) s).2) := by
  unfold cq_
  rw [List.take_add_one, h, Option.toList_some, List.foldl_append]; rfl
theorem both_c (B : EngB) (E : Emt Tryz.prog 41) (A : EngA) (pm : List (Ky × Pc)) (x : Ix) (f : Fc) (nw fm : List Fc) (Hs : Hp) (hS : E.St nw fm Hs) (hpl : ∀ k, (lat pm k).length ≤ 1000000000) (hxl : ∀ k, (lat x.above k).length ≤ 1000000000 ∧ (lat x.under k).length ≤ 1000000000) (hyl : ∀ k, (lat x.frm k).length ≤ 1000000000 ∧ (lat x.into k).length ≤ 1000000000 ∧ (lat x.ranges k).length ≤ 1000000000 ∧ (lat x.firms k).length ≤ 1000000000) : Tri Tryz.prog 101 #[zp_ B.g 0, Fc.val f] Hs [gF B E, pF B pm A, aF B x A, uF B x A, oF B x A, iF B x A, rF B x A, sF B x A, E.ef] (fun _ : {H' : Hp // E.St (eg_ E.stp E.kof f (lat pm (Ky.mk 2 [] (Fc.b f))) nw) fm H'} => .tuple #[]) (fun y => y.1) (fun _ => []) := by
 refine M_ Tryz.func101 rfl rfl Tryz.ntmps101 rfl fun v0 => ?_
 refine f_ (c_ (aF_ rfl rfl fun b1 => ?_))
 refine d_ (b_ rfl (f_ ?_))
 refine aN_ (by kernel_rfl) ?_
 refine ad_ 0 [0, 1, 2, 3, 4, 5, 6, 7, 8, 9] (by kernel_rfl) (fun _ a b => ⟨a, b⟩) (k_ rfl (h_ rfl) rfl (k_ rfl (af_ rfl) rfl (k_ rfl (j_ D_ rfl rfl rfl dq_) rfl (k_ rfl (aa_ ee_ rfl (fun v _ h => by exact h.1) rfl) rfl (k_ rfl (j_ u_ rfl rfl rfl s_) rfl (k_ rfl (q_ 0 w_ rfl rfl rfl) rfl (k_ rfl (ag_ ep_ rfl rfl) rfl (k_ rfl (ci_ (k := (Ky.mk 2 [] (Fc.b f))) (adr := A.p) gy_ cd_ cx_ rfl rfl (fun v _ h => by exact h.2.1)) rfl (k_ rfl (ah_ G_ rfl) rfl ?_)))))))))
 refine k_ rfl (h_ rfl) rfl (ac_ (ab_ (by kernel_rfl) (b_ rfl (S_ ?_))))
 refine aV_ (ι := {y : Nat × Hp // y.1 ≤ List.length (lat pm (Ky.mk 2 [] (Fc.b f))) ∧ E.St (eg_ E.stp E.kof f (List.take y.1 (lat pm (Ky.mk 2 [] (Fc.b f)))) nw) fm y.2}) (fun y => [(0, zp_ B.g 0), (3, zp_ b1 0), (13, .slice (Prod.fst (A.p (Ky.mk 2 [] (Fc.b f)))) (List.length (lat pm (Ky.mk 2 [] (Fc.b f)))) (Prod.snd (A.p (Ky.mk 2 [] (Fc.b f))))), (14, .int .i64 (List.length (lat pm (Ky.mk 2 [] (Fc.b f))) : Int)), (15, .int .i64 (y.1.1 : Int))]) (fun y => ((b1, .cells (Fc.cells f).toArray 41 (0, 0)) :: y.1.2)) (fun y => [gF B E, pF B pm A, aF B x A, uF B x A, oF B x A, iF B x A, rF B x A, sF B x A, E.ef]) (fun y => List.length (lat pm (Ky.mk 2 [] (Fc.b f))) - y.1.1) ⟨((0 : Nat), Hs), by simp, by exact hS⟩ ⟨rfl, rfl, rfl, rfl, rfl, trivial⟩ (l_ i_ ba_) (fun _ _ h => h) ?_
 rintro ⟨⟨i, Hs_i⟩, hi_i, hS_i⟩
 dsimp only at hi_i hS_i ⊢
 have hb_i := hpl (Ky.mk 2 [] (Fc.b f))
 refine f_ (c_ (x_ (az_ rfl rfl) rfl fun r1 hr1 => ?_))
 refine d_ (b_ rfl (f_ ?_))
 cases r1
 ·
  replace hr1 := of_decide_eq_false hr1
  refine p_ rfl (aD_ rfl (aO_ rfl ?_))
  exact cn_ Tryz.results101 ⟨Hs_i, by rw [List.take_of_length_le (by omega)] at hS_i; exact hS_i⟩ rfl ai_ (fun _ _ _ => trivial)
 ·
  replace hr1 := of_decide_eq_true hr1
  have hlx1 : i < List.length (lat pm (Ky.mk 2 [] (Fc.b f))) := by omega
  obtain ⟨x1, hx1⟩ : ∃ e0, (lat pm (Ky.mk 2 [] (Fc.b f)))[i]? = some e0 := ⟨_, List.getElem?_eq_getElem hlx1⟩
  have hmx1 : x1 ∈ (lat pm (Ky.mk 2 [] (Fc.b f))) := List.mem_of_getElem? hx1
  refine n_ rfl (A_ (b_ rfl (f_ (S_ (f_ (c_ (a_ (ak_ G_ U_ rfl rfl (fun v _ h => aL_ (n := 10) Pc.cells_len (by decide) (by exact (bI_ h.2.1 (Ky.mk 2 [] (Fc.b f)))) hx1) (by omega) (by first | omega | (simp; done))) rfl (a_ (aE_ (ad := (Prod.fst (A.p (Ky.mk 2 [] (Fc.b f))))) (us := Pc.cells x1) bh_ U_ rfl (fun v _ h => by exact (bI_ h.2.1 (Ky.mk 2 [] (Fc.b f)))) (Pc.cells_len _) (an_ Pc.cells_len hx1)) rfl (al_ ap_ rfl fun b2 => ?_)))))))))
  refine Z_ 0 U_ rfl rfl rfl rfl rfl rfl (d_ (b_ rfl (f_ ?_)))
  refine aN_ (by kernel_rfl) ?_
  refine ad_ 14 [0, 1, 2, 3, 4, 5, 6, 7] (by kernel_rfl) (fun _ a b => ⟨a, b⟩) (k_ rfl (h_ rfl) rfl (k_ rfl (af_ rfl) rfl (k_ rfl (j_ D_ rfl rfl rfl bT_) rfl (k_ rfl (aa_ ck_ rfl (fun v _ h => by exact h.1) rfl) rfl (k_ rfl (j_ u_ rfl rfl rfl s_) rfl (k_ rfl (q_ 1 w_ rfl rfl rfl) rfl (k_ rfl (j_ F_ rfl rfl rfl s_) rfl (k_ rfl (q_ 0 w_ rfl rfl rfl) rfl (ac_ ?_)))))))))
  refine O_ 8 rfl (by kernel_rfl) (Q_ (fs_ (Fc.a f) (Pc.a x1)) rfl W_ (fun _ _ _ => by exact trivial) rfl fun _ => ?_)
  refine d_ (r_ rfl (C_ (fun _ a b => ⟨a, b⟩) (ad_ 11 [9, 10] (by kernel_rfl) (fun _ a b => ⟨a, b⟩) ?_)))
  refine ds_ rfl (gZ_ (f := (aG_ (Fc.a f) (Pc.a x1))) hS_i gO_ aZ_ db_ rfl rfl (e_ ai_)) rfl fun r2 hr2 => ?_
  refine k_ rfl (h_ rfl) rfl (ac_ ?_)
  cases r2
  ·
   replace hr2 := of_decide_eq_false hr2
   refine ad_ 0 [11, 12, 13, 14, 15, 16, 17, 18, 19, 20, 21] (by kernel_rfl) (fun _ a b => ⟨a, b⟩) (dN_ rfl rfl rfl rfl rfl (dN_ rfl rfl rfl rfl rfl (dN_ rfl rfl rfl rfl rfl (dN_ rfl rfl rfl rfl rfl (dN_ rfl rfl rfl rfl rfl (dN_ rfl rfl rfl rfl rfl (dN_ rfl rfl rfl rfl rfl (dN_ rfl rfl rfl rfl rfl (dN_ rfl rfl rfl rfl rfl ?_)))))))))
   refine dN_ rfl rfl rfl rfl rfl (k_ rfl (N_ rfl rfl) rfl (ac_ (ab_ (by kernel_rfl) (b_ rfl (p_ rfl (A_ (b_ rfl (c_ (a_ (V_ rfl rfl rfl (aq_ (by omega) (by omega))) rfl ?_)))))))))
   refine a_ (h_ rfl) rfl (d_ (r_ rfl ?_))
   exact ao_ ⟨(i + 1, Hs_i), hlx1, (by rw [iD_ hx1]; first | (rw [if_pos ⟨by assumption, by assumption⟩]; exact hS_i) | (rw [if_neg (fun q => absurd q.1 (by assumption))]; exact hS_i) | (rw [if_neg (fun q => absurd q.2 (by assumption))]; exact hS_i))⟩ (by dsimp only; omega) ⟨rfl, rfl, rfl, rfl, rfl, trivial⟩ (l_ (e_ i_) ai_) (fun _ _ h => h)
  ·
   replace hr2 := of_decide_eq_true hr2
   refine ad_ 3 [11, 12, 13, 14, 15, 16, 17, 18] (by kernel_rfl) (fun _ a b => ⟨a, b⟩) (cK_ rfl rfl rfl (h_ rfl) rfl (cK_ rfl rfl rfl (af_ rfl) rfl (cK_ rfl rfl rfl (j_ D_ rfl rfl rfl bT_) rfl (cK_ rfl rfl rfl (aa_ ck_ rfl (fun v _ h => by exact h.1) rfl) rfl (cK_ rfl rfl rfl (j_ u_ rfl rfl rfl s_) rfl (cK_ rfl rfl rfl (q_ 1 w_ rfl rfl rfl) rfl (cK_ rfl rfl rfl (j_ F_ rfl rfl rfl s_) rfl (cK_ rfl rfl rfl (q_ 0 w_ rfl rfl rfl) rfl (ac_ ?_)))))))))
   refine O_ 19 rfl (by kernel_rfl) (o_ rfl rfl (Q_ (fs_ (Fc.a f) (Pc.b x1)) rfl W_ (fun _ _ _ => by exact trivial) rfl fun _ => ?_))
   refine d_ (r_ rfl (C_ (fun _ a b => ⟨a, b⟩) (ad_ 0 [20, 21] (by kernel_rfl) (fun _ a b => ⟨a, b⟩) ?_)))
   refine jp_ rfl rfl rfl (gZ_ (f := (aG_ (Fc.a f) (Pc.b x1))) hS_i gO_ aZ_ db_ rfl rfl (e_ ai_)) rfl fun r3 hr3 => ?_
   refine k_ rfl (R_ rfl rfl) rfl (ac_ (ab_ (by kernel_rfl) (b_ rfl ?_)))
   cases r3
   ·
    replace hr3 := of_decide_eq_false hr3
    refine p_ rfl (A_ (b_ rfl (c_ (a_ (V_ rfl rfl rfl (aq_ (by omega) (by omega))) rfl (a_ (h_ rfl) rfl (d_ (r_ rfl ?_)))))))
    exact ao_ ⟨(i + 1, Hs_i), hlx1, (by rw [iD_ hx1]; first | (rw [if_pos ⟨by assumption, by assumption⟩]; exact hS_i) | (rw [if_neg (fun q => absurd q.1 (by assumption))]; exact hS_i) | (rw [if_neg (fun q => absurd q.2 (by assumption))]; exact hS_i))⟩ (by dsimp only; omega) ⟨rfl, rfl, rfl, rfl, rfl, trivial⟩ (l_ (e_ i_) ai_) (fun _ _ h => h)
   ·
    replace hr3 := of_decide_eq_true hr3
    refine n_ rfl ?_
    refine aC_ ((b2, .cells (Pc.cells x1).toArray 47 (0, 0)) :: ((b1, .cells (Fc.cells f).toArray 41 (0, 0)) :: [])) (by kernel_rfl) ?_
    refine ad_ 2 [0, 1, 2, 3, 4, 5, 6, 7] (by kernel_rfl) (fun _ a b => ⟨Vw.sat.sub (a.perm (l_ i_ i_)), b⟩) (k_ rfl (h_ rfl) rfl (k_ rfl (af_ rfl) rfl (k_ rfl (j_ D_ rfl rfl rfl aU_) rfl (k_ rfl (aa_ bz_ rfl (fun v _ h => by exact h.1) rfl) rfl (k_ rfl (j_ u_ rfl rfl rfl s_) rfl (k_ rfl (q_ 1 w_ rfl rfl rfl) rfl (k_ rfl (j_ F_ rfl rfl rfl s_) rfl (k_ rfl (q_ 0 w_ rfl rfl rfl) rfl (ac_ ?_)))))))))
    refine O_ 8 rfl (by kernel_rfl) (Q_ (fs_ (Fc.a f) (Pc.c x1)) rfl W_ (fun _ _ _ => by exact trivial) rfl fun _ => ?_)
    refine d_ (r_ rfl (C_ (fun _ a b => ⟨Vw.sat.sub (a.perm (l_ i_ i_)), b⟩) (O_ 9 rfl (by kernel_rfl) (aH_ (first := []) (cap := E.caps) (E.emit (aG_ (Fc.a f) (Pc.c x1)) (eg_ E.stp E.kof f (List.take i (lat pm (Ky.mk 2 [] (Fc.b f)))) nw) fm Hs_i hS_i) rfl rfl (e_ ai_) (fun v _ h => by exact ⟨h.2.2.2.2.2.2.2.2.1, trivial⟩) rfl fun ⟨Hs1, hS1⟩ => ?_))))
    dsimp only
    refine d_ (r_ rfl (C_ (fun _ a b => ⟨Vw.sat.sub (a.perm (l_ (m_ i_) be_)), b⟩) (ab_ (by kernel_rfl) (b_ rfl (c_ (a_ (V_ rfl rfl rfl (aq_ (by omega) (by omega))) rfl (a_ (h_ rfl) rfl (d_ (r_ rfl ?_)))))))))
    exact ao_ ⟨(i + 1, Hs1), hlx1, (by rw [iD_ hx1]; first | (rw [if_pos ⟨by assumption, by assumption⟩]; exact hS1) | (rw [if_neg (fun q => absurd q.1 (by assumption))]; exact hS1) | (rw [if_neg (fun q => absurd q.2 (by assumption))]; exact hS1))⟩ (by dsimp only; omega) ⟨rfl, rfl, rfl, rfl, rfl, trivial⟩ (l_ (m_ (e_ i_)) z_) (fun _ _ h => h)
theorem rw_ (B : EngB) (E : Emt Tryz.prog 41) (A : EngA) (pm : List (Ky × Pc)) (x : Ix) (f : Fc) (nw fm : List Fc) (Hs : Hp) (hS : E.St nw fm Hs) (hpl : ∀ k, (lat pm k).length ≤ 1000000000) (hxl : ∀ k, (lat x.above k).length ≤ 1000000000 ∧ (lat x.under k).length ≤ 1000000000) (hyl : ∀ k, (lat x.frm k).length ≤ 1000000000 ∧ (lat x.into k).length ≤ 1000000000 ∧ (lat x.ranges k).length ≤ 1000000000 ∧ (lat x.firms k).length ≤ 1000000000) : Tri Tryz.prog 105 #[zp_ B.g 0, Fc.val f] Hs [gF B E, pF B pm A, aF B x A, uF B x A, oF B x A, iF B x A, rF B x A, sF B x A, E.ef] (fun _ : {H' : Hp // E.St (Prod.fst (cq_ E.stp E.kof f (lat pm (Ky.mk 8 [] (Fc.b f))) (nw, fm))) (Prod.snd (cq_ E.stp E.kof f (lat pm (Ky.mk 8 [] (Fc.b f))) (nw, fm))) H'} => .tuple #[]) (fun y => y.1) (fun _ => []) := by
 refine M_ Tryz.func105 rfl rfl Tryz.ntmps105 rfl fun v0 => ?_
 refine f_ (c_ (aF_ rfl rfl fun b1 => ?_))
 refine d_ (b_ rfl (f_ ?_))
 refine aN_ (by kernel_rfl) ?_
 refine ad_ 0 [0, 1, 2, 3, 4, 5, 6, 7, 8, 9] (by kernel_rfl) (fun _ a b => ⟨a, b⟩) (k_ rfl (h_ rfl) rfl (k_ rfl (af_ rfl) rfl (k_ rfl (j_ D_ rfl rfl rfl dq_) rfl (k_ rfl (aa_ ee_ rfl (fun v _ h => by exact h.1) rfl) rfl (k_ rfl (j_ u_ rfl rfl rfl s_) rfl (k_ rfl (q_ 0 w_ rfl rfl rfl) rfl (k_ rfl (ag_ ep_ rfl rfl) rfl (k_ rfl (ci_ (k := (Ky.mk 8 [] (Fc.b f))) (adr := A.p) gy_ cd_ cx_ rfl rfl (fun v _ h => by exact h.2.1)) rfl (k_ rfl (ah_ G_ rfl) rfl ?_)))))))))
 refine k_ rfl (h_ rfl) rfl (ac_ (ab_ (by kernel_rfl) (b_ rfl (S_ ?_))))
 refine aV_ (ι := {y : Nat × Hp // y.1 ≤ List.length (lat pm (Ky.mk 8 [] (Fc.b f))) ∧ E.St (Prod.fst (cq_ E.stp E.kof f (List.take y.1 (lat pm (Ky.mk 8 [] (Fc.b f)))) (nw, fm))) (Prod.snd (cq_ E.stp E.kof f (List.take y.1 (lat pm (Ky.mk 8 [] (Fc.b f)))) (nw, fm))) y.2}) (fun y => [(0, zp_ B.g 0), (3, zp_ b1 0), (14, .slice (Prod.fst (A.p (Ky.mk 8 [] (Fc.b f)))) (List.length (lat pm (Ky.mk 8 [] (Fc.b f)))) (Prod.snd (A.p (Ky.mk 8 [] (Fc.b f))))), (15, .int .i64 (List.length (lat pm (Ky.mk 8 [] (Fc.b f))) : Int)), (16, .int .i64 (y.1.1 : Int))]) (fun y => ((b1, .cells (Fc.cells f).toArray 41 (0, 0)) :: y.1.2)) (fun y => [gF B E, pF B pm A, aF B x A, uF B x A, oF B x A, iF B x A, rF B x A, sF B x A, E.ef]) (fun y => List.length (lat pm (Ky.mk 8 [] (Fc.b f))) - y.1.1) ⟨((0 : Nat), Hs), by simp, by exact hS⟩ ⟨rfl, rfl, rfl, rfl, rfl, trivial⟩ (l_ i_ ba_) (fun _ _ h => h) ?_
 rintro ⟨⟨i, Hs_i⟩, hi_i, hS_i⟩
 dsimp only at hi_i hS_i ⊢
 have hb_i := hpl (Ky.mk 8 [] (Fc.b f))
 refine f_ (c_ (x_ (az_ rfl rfl) rfl fun r1 hr1 => ?_))
 refine d_ (b_ rfl (f_ ?_))
 cases r1
 ·
  replace hr1 := of_decide_eq_false hr1
  refine p_ rfl (aD_ rfl (aO_ rfl ?_))
  exact cn_ Tryz.results105 ⟨Hs_i, by rw [List.take_of_length_le (by omega)] at hS_i; exact hS_i⟩ rfl ai_ (fun _ _ _ => trivial)
 ·
  replace hr1 := of_decide_eq_true hr1
  have hlx1 : i < List.length (lat pm (Ky.mk 8 [] (Fc.b f))) := by omega
  obtain ⟨x1, hx1⟩ : ∃ e0, (lat pm (Ky.mk 8 [] (Fc.b f)))[i]? = some e0 := ⟨_, List.getElem?_eq_getElem hlx1⟩
  have hmx1 : x1 ∈ (lat pm (Ky.mk 8 [] (Fc.b f))) := List.mem_of_getElem? hx1
  refine n_ rfl (A_ (b_ rfl (f_ (S_ (f_ (c_ (a_ (ak_ G_ U_ rfl rfl (fun v _ h => aL_ (n := 10) Pc.cells_len (by decide) (by exact (bI_ h.2.1 (Ky.mk 8 [] (Fc.b f)))) hx1) (by omega) (by first | omega | (simp; done))) rfl (a_ (aE_ (ad := (Prod.fst (A.p (Ky.mk 8 [] (Fc.b f))))) (us := Pc.cells x1) bh_ U_ rfl (fun v _ h => by exact (bI_ h.2.1 (Ky.mk 8 [] (Fc.b f)))) (Pc.cells_len _) (an_ Pc.cells_len hx1)) rfl (al_ ap_ rfl fun b2 => ?_)))))))))
  refine Z_ 0 U_ rfl rfl rfl rfl rfl rfl (d_ (b_ rfl (f_ (c_ (a_ (j_ u_ rfl rfl rfl s_) rfl (a_ (q_ 1 w_ rfl rfl rfl) rfl (a_ (j_ F_ rfl rfl rfl s_) rfl (a_ (q_ 0 w_ rfl rfl rfl) rfl (a_ (j_ F_ rfl rfl rfl H_) rfl ?_)))))))))
  refine a_ (q_ 0 J_ rfl rfl rfl) rfl (a_ (j_ F_ rfl rfl rfl H_) rfl (a_ (q_ 0 J_ rfl rfl rfl) rfl (Q_ (ny_ (Fc.a f) (Pc.r x1) (Pc.lo x1) (Pc.hi x1)) rfl W_ (fun _ _ _ => by exact trivial) rfl fun _ => ?_)))
  refine al_ bt_ rfl fun b3 => ?_
  refine Z_ 0 X_ rfl rfl rfl rfl rfl rfl (d_ (b_ rfl (f_ (f_ ?_))))
  refine aN_ (by kernel_rfl) ?_
  refine ad_ 0 [0, 1, 2, 3, 4, 5, 6] (by kernel_rfl) (fun _ a b => ⟨a, b⟩) (k_ rfl (h_ rfl) rfl (k_ rfl (af_ rfl) rfl (k_ rfl (j_ D_ rfl rfl rfl bT_) rfl (k_ rfl (aa_ ck_ rfl (fun v _ h => by exact h.1) rfl) rfl (k_ rfl (L_ 0 au_ X_ rfl rfl rfl) rfl ?_)))))
  refine ds_ rfl (gZ_ (f := (aM_ (Fc.a f) (Pc.r x1) (Pc.lo x1) (Pc.hi x1))) hS_i gO_ aZ_ db_ rfl rfl (e_ (e_ ai_))) rfl fun r2 hr2 => ?_
  refine k_ rfl (bG_ rfl) rfl (ac_ (ab_ (by kernel_rfl) (b_ rfl ?_)))
  cases r2
  ·
   replace hr2 := of_decide_eq_false hr2
   refine n_ rfl ?_
   refine aC_ ((b3, .cells #[.int .i64 (Fc.kind (aM_ (Fc.a f) (Pc.r x1) (Pc.lo x1) (Pc.hi x1))), str (Fc.a (aM_ (Fc.a f) (Pc.r x1) (Pc.lo x1) (Pc.hi x1))), str (Fc.b (aM_ (Fc.a f) (Pc.r x1) (Pc.lo x1) (Pc.hi x1))), str (Fc.r (aM_ (Fc.a f) (Pc.r x1) (Pc.lo x1) (Pc.hi x1))), .int .i64 (Fc.lo (aM_ (Fc.a f) (Pc.r x1) (Pc.lo x1) (Pc.hi x1))), .int .i64 (Fc.hi (aM_ (Fc.a f) (Pc.r x1) (Pc.lo x1) (Pc.hi x1)))] 41 (0, 0)) :: ((b2, .cells (Pc.cells x1).toArray 47 (0, 0)) :: ((b1, .cells (Fc.cells f).toArray 41 (0, 0)) :: []))) (by kernel_rfl) ?_
   refine ad_ 1 [0, 1, 2, 3, 4] (by kernel_rfl) (fun _ a b => ⟨Vw.sat.sub (a.perm (l_ i_ (l_ i_ i_))), b⟩) (k_ rfl (h_ rfl) rfl (k_ rfl (af_ rfl) rfl (k_ rfl (j_ D_ rfl rfl rfl bT_) rfl (k_ rfl (aa_ ck_ rfl (fun v _ h => by exact h.1) rfl) rfl (k_ rfl (L_ 0 au_ X_ rfl rfl rfl) rfl (ac_ (O_ 5 rfl (by kernel_rfl) (qB_ (f := (aM_ (Fc.a f) (Pc.r x1) (Pc.lo x1) (Pc.hi x1))) hS_i gO_ (.inr rfl) aZ_ rfl rfl rfl (e_ (e_ ai_)) fun Hs1 hS1 => ?_))))))))
   refine d_ (r_ rfl (C_ (fun _ a b => ⟨Vw.sat.sub (a.perm (l_ (m_ i_) (l_ (m_ i_) be_))), b⟩) (ab_ (by kernel_rfl) (b_ rfl ?_))))
   refine aC_ ((b3, .cells #[.int .i64 (Fc.kind (aM_ (Fc.a f) (Pc.r x1) (Pc.lo x1) (Pc.hi x1))), str (Fc.a (aM_ (Fc.a f) (Pc.r x1) (Pc.lo x1) (Pc.hi x1))), str (Fc.b (aM_ (Fc.a f) (Pc.r x1) (Pc.lo x1) (Pc.hi x1))), str (Fc.r (aM_ (Fc.a f) (Pc.r x1) (Pc.lo x1) (Pc.hi x1))), .int .i64 (Fc.lo (aM_ (Fc.a f) (Pc.r x1) (Pc.lo x1) (Pc.hi x1))), .int .i64 (Fc.hi (aM_ (Fc.a f) (Pc.r x1) (Pc.lo x1) (Pc.hi x1)))] 41 (0, 0)) :: ((b2, .cells (Pc.cells x1).toArray 47 (0, 0)) :: ((b1, .cells (Fc.cells f).toArray 41 (0, 0)) :: []))) (by kernel_rfl) ?_
   refine ad_ 1 [0, 1, 2, 3, 4] (by kernel_rfl) (fun _ a b => ⟨Vw.sat.sub (a.perm (l_ (m_ i_) (l_ (m_ i_) be_))), b⟩) (k_ rfl (h_ rfl) rfl (k_ rfl (af_ rfl) rfl (k_ rfl (j_ D_ rfl rfl rfl aU_) rfl (k_ rfl (aa_ bz_ rfl (fun v _ h => by exact h.1) rfl) rfl (k_ rfl (L_ 0 au_ X_ rfl rfl rfl) rfl (ac_ (O_ 5 rfl (by kernel_rfl) (aH_ (first := []) (cap := E.caps) (E.emit (aM_ (Fc.a f) (Pc.r x1) (Pc.lo x1) (Pc.hi x1)) (Prod.fst (cq_ E.stp E.kof f (List.take i (lat pm (Ky.mk 8 [] (Fc.b f)))) (nw, fm))) ((aM_ (Fc.a f) (Pc.r x1) (Pc.lo x1) (Pc.hi x1)) :: (Prod.snd (cq_ E.stp E.kof f (List.take i (lat pm (Ky.mk 8 [] (Fc.b f)))) (nw, fm)))) Hs1 hS1) rfl rfl z_ (fun v _ h => by exact ⟨h.2.2.2.2.2.2.2.2.1, trivial⟩) rfl fun ⟨Hs2, hS2⟩ => ?_))))))))
   dsimp only
   refine d_ (r_ rfl (C_ (fun _ a b => ⟨Vw.sat.sub (a.perm (l_ (m_ i_) (l_ (m_ i_) be_))), b⟩) (ab_ (by kernel_rfl) (b_ rfl (c_ (a_ (V_ rfl rfl rfl (aq_ (by omega) (by omega))) rfl (a_ (h_ rfl) rfl (d_ (r_ rfl ?_)))))))))
   exact ao_ ⟨(i + 1, Hs2), hlx1, (by rw [jj_ hx1]; dsimp only; first | (rw [if_pos (by assumption)]; exact hS2) | (rw [if_neg (by assumption)]; exact hS2))⟩ (by dsimp only; omega) ⟨rfl, rfl, rfl, rfl, rfl, trivial⟩ (l_ (m_ (e_ (e_ i_))) z_) (fun _ _ h => h)
  ·
   replace hr2 := of_decide_eq_true hr2
   refine p_ rfl (A_ (b_ rfl ?_))
   refine aC_ ((b3, .cells #[.int .i64 (Fc.kind (aM_ (Fc.a f) (Pc.r x1) (Pc.lo x1) (Pc.hi x1))), str (Fc.a (aM_ (Fc.a f) (Pc.r x1) (Pc.lo x1) (Pc.hi x1))), str (Fc.b (aM_ (Fc.a f) (Pc.r x1) (Pc.lo x1) (Pc.hi x1))), str (Fc.r (aM_ (Fc.a f) (Pc.r x1) (Pc.lo x1) (Pc.hi x1))), .int .i64 (Fc.lo (aM_ (Fc.a f) (Pc.r x1) (Pc.lo x1) (Pc.hi x1))), .int .i64 (Fc.hi (aM_ (Fc.a f) (Pc.r x1) (Pc.lo x1) (Pc.hi x1)))] 41 (0, 0)) :: ((b2, .cells (Pc.cells x1).toArray 47 (0, 0)) :: ((b1, .cells (Fc.cells f).toArray 41 (0, 0)) :: []))) (by kernel_rfl) ?_
   refine ad_ 1 [0, 1, 2, 3, 4] (by kernel_rfl) (fun _ a b => ⟨Vw.sat.sub (a.perm (l_ i_ (l_ i_ i_))), b⟩) (k_ rfl (h_ rfl) rfl (k_ rfl (af_ rfl) rfl (k_ rfl (j_ D_ rfl rfl rfl aU_) rfl (k_ rfl (aa_ bz_ rfl (fun v _ h => by exact h.1) rfl) rfl (k_ rfl (L_ 0 au_ X_ rfl rfl rfl) rfl (ac_ (O_ 5 rfl (by kernel_rfl) (aH_ (first := []) (cap := E.caps) (E.emit (aM_ (Fc.a f) (Pc.r x1) (Pc.lo x1) (Pc.hi x1)) (Prod.fst (cq_ E.stp E.kof f (List.take i (lat pm (Ky.mk 8 [] (Fc.b f)))) (nw, fm))) (Prod.snd (cq_ E.stp E.kof f (List.take i (lat pm (Ky.mk 8 [] (Fc.b f)))) (nw, fm))) Hs_i hS_i) rfl rfl (e_ (e_ ai_)) (fun v _ h => by exact ⟨h.2.2.2.2.2.2.2.2.1, trivial⟩) rfl fun ⟨Hs3, hS3⟩ => ?_))))))))
   dsimp only
   refine d_ (r_ rfl (C_ (fun _ a b => ⟨Vw.sat.sub (a.perm (l_ (m_ i_) (l_ (m_ i_) be_))), b⟩) (ab_ (by kernel_rfl) (b_ rfl (c_ (a_ (V_ rfl rfl rfl (aq_ (by omega) (by omega))) rfl (a_ (h_ rfl) rfl (d_ (r_ rfl ?_)))))))))
   exact ao_ ⟨(i + 1, Hs3), hlx1, (by rw [jj_ hx1]; dsimp only; first | (rw [if_pos (by assumption)]; exact hS3) | (rw [if_neg (by assumption)]; exact hS3))⟩ (by dsimp only; omega) ⟨rfl, rfl, rfl, rfl, rfl, trivial⟩ (l_ (m_ (e_ (e_ i_))) z_) (fun _ _ h => h)
theorem nY_ (B : EngB) (E : Emt Tryz.prog 41) (A : EngA) (pm : List (Ky × Pc)) (x : Ix) (f : Fc) (nw fm : List Fc) (Hs : Hp) (hS : E.St nw fm Hs) (hpl : ∀ k, (lat pm k).length ≤ 1000000000) (hxl : ∀ k, (lat x.above k).length ≤ 1000000000 ∧ (lat x.under k).length ≤ 1000000000) (hyl : ∀ k, (lat x.frm k).length ≤ 1000000000 ∧ (lat x.into k).length ≤ 1000000000 ∧ (lat x.ranges k).length ≤ 1000000000 ∧ (lat x.firms k).length ≤ 1000000000) : Tri Tryz.prog 103 #[zp_ B.g 0, Fc.val f] Hs [gF B E, pF B pm A, aF B x A, uF B x A, oF B x A, iF B x A, rF B x A, sF B x A, E.ef] (fun _ : {H' : Hp // E.St (emits E.stp (ff_ pm x f) nw) fm H'} => .tuple #[]) (fun y => y.1) (fun _ => []) := by
 refine M_ Tryz.func103 rfl rfl Tryz.ntmps103 rfl fun v0 => ?_
 refine f_ (c_ (aF_ rfl rfl fun b1 => ?_))
 refine d_ (b_ rfl (f_ ?_))
 refine aN_ (by kernel_rfl) ?_
 refine ad_ 0 [0, 1, 2, 3, 4, 5, 6, 7, 8, 9] (by kernel_rfl) (fun _ a b => ⟨a, b⟩) (k_ rfl (h_ rfl) rfl (k_ rfl (af_ rfl) rfl (k_ rfl (j_ D_ rfl rfl rfl dq_) rfl (k_ rfl (aa_ ee_ rfl (fun v _ h => by exact h.1) rfl) rfl (k_ rfl (j_ u_ rfl rfl rfl s_) rfl (k_ rfl (q_ 0 w_ rfl rfl rfl) rfl (k_ rfl (ag_ ep_ rfl rfl) rfl (k_ rfl (ci_ (k := (Ky.mk 4 [] (Fc.b f))) (adr := A.p) gy_ cd_ cx_ rfl rfl (fun v _ h => by exact h.2.1)) rfl (k_ rfl (ah_ G_ rfl) rfl ?_)))))))))
 refine k_ rfl (h_ rfl) rfl (ac_ (ab_ (by kernel_rfl) (b_ rfl (S_ ?_))))
 refine aV_ (ι := {y : Nat × Hp // y.1 ≤ List.length (lat pm (Ky.mk 4 [] (Fc.b f))) ∧ E.St (emits E.stp (List.flatMap (fun y => List.map (fun a => aG_ a (Pc.c y)) (lat x.into (Fc.a f, Pc.r y))) (List.take y.1 (lat pm (Ky.mk 4 [] (Fc.b f))))) nw) fm y.2}) (fun y => [(0, zp_ B.g 0), (3, zp_ b1 0), (15, .slice (Prod.fst (A.p (Ky.mk 4 [] (Fc.b f)))) (List.length (lat pm (Ky.mk 4 [] (Fc.b f)))) (Prod.snd (A.p (Ky.mk 4 [] (Fc.b f))))), (16, .int .i64 (List.length (lat pm (Ky.mk 4 [] (Fc.b f))) : Int)), (17, .int .i64 (y.1.1 : Int))]) (fun y => ((b1, .cells (Fc.cells f).toArray 41 (0, 0)) :: y.1.2)) (fun y => [gF B E, pF B pm A, aF B x A, uF B x A, oF B x A, iF B x A, rF B x A, sF B x A, E.ef]) (fun y => List.length (lat pm (Ky.mk 4 [] (Fc.b f))) - y.1.1) ⟨((0 : Nat), Hs), by simp, by exact hS⟩ ⟨rfl, rfl, rfl, rfl, rfl, trivial⟩ (l_ i_ ba_) (fun _ _ h => h) ?_
 rintro ⟨⟨i, Hs_i⟩, hi_i, hS_i⟩
 dsimp only at hi_i hS_i ⊢
 have hb_i := hpl (Ky.mk 4 [] (Fc.b f))
 refine f_ (c_ (x_ (az_ rfl rfl) rfl fun r1 hr1 => ?_))
 refine d_ (b_ rfl (f_ ?_))
 cases r1
 ·
  replace hr1 := of_decide_eq_false hr1
  refine p_ rfl (aD_ rfl (aO_ rfl ?_))
  exact cn_ Tryz.results103 ⟨Hs_i, by unfold ff_; rw [List.take_of_length_le (by omega)] at hS_i; exact hS_i⟩ rfl ai_ (fun _ _ _ => trivial)
 ·
  replace hr1 := of_decide_eq_true hr1
  have hlx1 : i < List.length (lat pm (Ky.mk 4 [] (Fc.b f))) := by omega
  obtain ⟨x1, hx1⟩ : ∃ e0, (lat pm (Ky.mk 4 [] (Fc.b f)))[i]? = some e0 := ⟨_, List.getElem?_eq_getElem hlx1⟩
  have hmx1 : x1 ∈ (lat pm (Ky.mk 4 [] (Fc.b f))) := List.mem_of_getElem? hx1
  refine n_ rfl (A_ (b_ rfl (f_ (S_ (f_ (c_ (a_ (ak_ G_ U_ rfl rfl (fun v _ h => aL_ (n := 10) Pc.cells_len (by decide) (by exact (bI_ h.2.1 (Ky.mk 4 [] (Fc.b f)))) hx1) (by omega) (by first | omega | (simp; done))) rfl (a_ (aE_ (ad := (Prod.fst (A.p (Ky.mk 4 [] (Fc.b f))))) (us := Pc.cells x1) bh_ U_ rfl (fun v _ h => by exact (bI_ h.2.1 (Ky.mk 4 [] (Fc.b f)))) (Pc.cells_len _) (an_ Pc.cells_len hx1)) rfl (al_ ap_ rfl fun b2 => ?_)))))))))
  refine Z_ 0 U_ rfl rfl rfl rfl rfl rfl (d_ (b_ rfl (f_ ?_)))
  refine aN_ (by kernel_rfl) ?_
  refine ad_ 0 [0, 1, 2, 3, 4, 5, 6, 7, 8, 9, 10, 11] (by kernel_rfl) (fun _ a b => ⟨a, b⟩) (k_ rfl (h_ rfl) rfl (k_ rfl (af_ rfl) rfl (k_ rfl (j_ D_ rfl rfl rfl dp_) rfl (k_ rfl (aa_ ed_ rfl (fun v _ h => by exact h.1) rfl) rfl (k_ rfl (j_ u_ rfl rfl rfl s_) rfl (k_ rfl (q_ 1 w_ rfl rfl rfl) rfl (k_ rfl (j_ F_ rfl rfl rfl s_) rfl (k_ rfl (q_ 0 w_ rfl rfl rfl) rfl (k_ rfl (ag_ eU_ rfl rfl) rfl ?_)))))))))
  refine k_ rfl (ci_ (k := ((Fc.a f), (Pc.r x1))) (adr := A.i) cR_ cc_ by_ rfl rfl (fun v _ h => by exact h.2.2.2.2.2.1)) rfl (k_ rfl (ah_ P_ rfl) rfl (k_ rfl (h_ rfl) rfl (ac_ (ab_ (by kernel_rfl) (b_ rfl (S_ ?_))))))
  refine aV_ (ι := {y : Nat × Hp // y.1 ≤ List.length (lat x.into ((Fc.a f), (Pc.r x1))) ∧ E.St (emits E.stp (List.map (fun a => aG_ a (Pc.c x1)) (List.take y.1 (lat x.into ((Fc.a f), (Pc.r x1))))) (emits E.stp (List.flatMap (fun y => List.map (fun a => aG_ a (Pc.c y)) (lat x.into (Fc.a f, Pc.r y))) (List.take i (lat pm (Ky.mk 4 [] (Fc.b f))))) nw)) fm y.2}) (fun y => [(0, zp_ B.g 0), (3, zp_ b1 0), (15, .slice (Prod.fst (A.p (Ky.mk 4 [] (Fc.b f)))) (List.length (lat pm (Ky.mk 4 [] (Fc.b f)))) (Prod.snd (A.p (Ky.mk 4 [] (Fc.b f))))), (16, .int .i64 (List.length (lat pm (Ky.mk 4 [] (Fc.b f))) : Int)), (17, .int .i64 (i : Int)), (5, zp_ b2 0), (30, .slice (Prod.fst (A.i ((Fc.a f), (Pc.r x1)))) (List.length (lat x.into ((Fc.a f), (Pc.r x1)))) (Prod.snd (A.i ((Fc.a f), (Pc.r x1))))), (31, .int .i64 (List.length (lat x.into ((Fc.a f), (Pc.r x1))) : Int)), (32, .int .i64 (y.1.1 : Int))]) (fun y => ((b2, .cells (Pc.cells x1).toArray 47 (0, 0)) :: ((b1, .cells (Fc.cells f).toArray 41 (0, 0)) :: y.1.2))) (fun y => [gF B E, pF B pm A, aF B x A, uF B x A, oF B x A, iF B x A, rF B x A, sF B x A, E.ef]) (fun y => List.length (lat x.into ((Fc.a f), (Pc.r x1))) - y.1.1) ⟨((0 : Nat), Hs_i), by simp, by exact hS_i⟩ ⟨rfl, rfl, rfl, rfl, rfl, rfl, rfl, rfl, rfl, trivial⟩ (l_ i_ (l_ i_ ba_)) (fun _ _ h => h) ?_
  rintro ⟨⟨j, Hs_j⟩, hi_j, hS_j⟩
  dsimp only at hi_j hS_j ⊢
  have hb_j := (hyl ((Fc.a f), (Pc.r x1))).2.1
  refine f_ (c_ (x_ (az_ rfl rfl) rfl fun r2 hr2 => ?_))
  refine d_ (b_ rfl (f_ ?_))
  cases r2
  ·
   replace hr2 := of_decide_eq_false hr2
   refine p_ rfl (aD_ rfl (b_ rfl (c_ (a_ (V_ rfl rfl rfl (aq_ (by omega) (by omega))) rfl (a_ (h_ rfl) rfl (d_ (r_ rfl ?_)))))))
   exact ao_ ⟨(i + 1, Hs_j), hlx1, (by rw [fS_ hx1, aQ_]; have e9 : List.take j (lat x.into (Fc.a f, Pc.r x1)) = (lat x.into (Fc.a f, Pc.r x1)) := List.take_of_length_le (by omega); rw [e9] at hS_j; exact hS_j)⟩ (by dsimp only; omega) ⟨rfl, rfl, rfl, rfl, rfl, trivial⟩ (l_ (e_ i_) ai_) (fun _ _ h => h)
  ·
   replace hr2 := of_decide_eq_true hr2
   have hlx2 : j < List.length (lat x.into ((Fc.a f), (Pc.r x1))) := by omega
   obtain ⟨x2, hx2⟩ : ∃ e0, (lat x.into ((Fc.a f), (Pc.r x1)))[j]? = some e0 := ⟨_, List.getElem?_eq_getElem hlx2⟩
   have hmx2 : x2 ∈ (lat x.into ((Fc.a f), (Pc.r x1))) := List.mem_of_getElem? hx2
   refine n_ rfl (A_ (b_ rfl (f_ (S_ (f_ (c_ (a_ (ak_ P_ s_ rfl rfl (fun v _ h => aL_ (n := 1) aX_ (by decide) (by exact (bI_ h.2.2.2.2.2.1 ((Fc.a f), (Pc.r x1)))) hx2) (by omega) (by first | omega | (simp; done))) rfl (a_ (bH_ (ad := (Prod.fst (A.i ((Fc.a f), (Pc.r x1))))) w_ rfl (fun v _ h => by exact (bI_ h.2.2.2.2.2.1 ((Fc.a f), (Pc.r x1)))) (an_ aX_ hx2 0 _ rfl)) rfl (a_ (g_ rfl) rfl ?_)))))))))
   refine d_ (b_ rfl ?_)
   refine aC_ ((b2, .cells (Pc.cells x1).toArray 47 (0, 0)) :: ((b1, .cells (Fc.cells f).toArray 41 (0, 0)) :: [])) (by kernel_rfl) ?_
   refine ad_ 2 [0, 1, 2, 3, 4, 5, 6] (by kernel_rfl) (fun _ a b => ⟨Vw.sat.sub (a.perm (l_ i_ i_)), b⟩) (k_ rfl (h_ rfl) rfl (k_ rfl (af_ rfl) rfl (k_ rfl (j_ D_ rfl rfl rfl aU_) rfl (k_ rfl (aa_ bz_ rfl (fun v _ h => by exact h.1) rfl) rfl (k_ rfl (h_ rfl) rfl (k_ rfl (j_ F_ rfl rfl rfl s_) rfl (k_ rfl (q_ 0 w_ rfl rfl rfl) rfl (ac_ (O_ 7 rfl (by kernel_rfl) ?_)))))))))
   refine Q_ (fs_ x2 (Pc.c x1)) rfl W_ (fun _ _ _ => by exact trivial) rfl fun _ => ?_
   refine d_ (r_ rfl (C_ (fun _ a b => ⟨Vw.sat.sub (a.perm (l_ i_ i_)), b⟩) (O_ 8 rfl (by kernel_rfl) (aH_ (first := []) (cap := E.caps) (E.emit (aG_ x2 (Pc.c x1)) (emits E.stp (List.map (fun a => aG_ a (Pc.c x1)) (List.take j (lat x.into ((Fc.a f), (Pc.r x1))))) (emits E.stp (List.flatMap (fun y => List.map (fun a => aG_ a (Pc.c y)) (lat x.into (Fc.a f, Pc.r y))) (List.take i (lat pm (Ky.mk 4 [] (Fc.b f))))) nw)) fm Hs_j hS_j) rfl rfl (e_ ai_) (fun v _ h => by exact ⟨h.2.2.2.2.2.2.2.2.1, trivial⟩) rfl fun ⟨Hs1, hS1⟩ => ?_))))
   dsimp only
   refine d_ (r_ rfl (C_ (fun _ a b => ⟨Vw.sat.sub (a.perm (l_ (m_ i_) be_)), b⟩) (ab_ (by kernel_rfl) (b_ rfl (c_ (a_ (V_ rfl rfl rfl (aq_ (by omega) (by omega))) rfl (a_ (h_ rfl) rfl (d_ (r_ rfl ?_)))))))))
   exact ao_ ⟨(j + 1, Hs1), hlx2, (by rw [ex_ hx2, aQ_]; exact hS1)⟩ (by dsimp only; omega) ⟨rfl, rfl, rfl, rfl, rfl, rfl, rfl, rfl, rfl, trivial⟩ (l_ (m_ i_) (l_ be_ ba_)) (fun _ _ h => h)
theorem nX_ (B : EngB) (E : Emt Tryz.prog 41) (A : EngA) (pm : List (Ky × Pc)) (x : Ix) (f : Fc) (nw fm : List Fc) (Hs : Hp) (hS : E.St nw fm Hs) (hpl : ∀ k, (lat pm k).length ≤ 1000000000) (hxl : ∀ k, (lat x.above k).length ≤ 1000000000 ∧ (lat x.under k).length ≤ 1000000000) (hyl : ∀ k, (lat x.frm k).length ≤ 1000000000 ∧ (lat x.into k).length ≤ 1000000000 ∧ (lat x.ranges k).length ≤ 1000000000 ∧ (lat x.firms k).length ≤ 1000000000) : Tri Tryz.prog 108 #[zp_ B.g 0, Fc.val f] Hs [gF B E, pF B pm A, aF B x A, uF B x A, oF B x A, iF B x A, rF B x A, sF B x A, E.ef] (fun _ : {H' : Hp // E.St (emits E.stp (fe_ pm x f) nw) fm H'} => .tuple #[]) (fun y => y.1) (fun _ => []) := by
 refine M_ Tryz.func108 rfl rfl Tryz.ntmps108 rfl fun v0 => ?_
 refine f_ (c_ (aF_ rfl rfl fun b1 => ?_))
 refine d_ (b_ rfl (f_ ?_))
 refine aN_ (by kernel_rfl) ?_
 refine ad_ 0 [0, 1, 2, 3, 4, 5, 6, 7, 8] (by kernel_rfl) (fun _ a b => ⟨a, b⟩) (k_ rfl (h_ rfl) rfl (k_ rfl (af_ rfl) rfl (k_ rfl (j_ D_ rfl rfl rfl hF_) rfl (k_ rfl (aa_ nU_ rfl (fun v _ h => by exact h.1) rfl) rfl (k_ rfl (j_ u_ rfl rfl rfl s_) rfl (k_ rfl (q_ 0 w_ rfl rfl rfl) rfl (k_ rfl (ci_ (k := (Fc.b f)) (adr := A.a) hX_ cr_ by_ rfl rfl (fun v _ h => by exact h.2.2.1)) rfl (k_ rfl (ah_ P_ rfl) rfl (k_ rfl (h_ rfl) rfl ?_)))))))))
 refine ac_ (ab_ (by kernel_rfl) (b_ rfl (S_ ?_)))
 refine aV_ (ι := {y : Nat × Hp // y.1 ≤ List.length (lat x.above (Fc.b f)) ∧ E.St (emits E.stp (List.flatMap (fun y => List.map (fun a => aG_ (Fc.a f) (Pc.c a)) (lat pm (Ky.mk 4 (Fc.r f) y))) (List.take y.1 (lat x.above (Fc.b f)))) nw) fm y.2}) (fun y => [(0, zp_ B.g 0), (3, zp_ b1 0), (14, .slice (Prod.fst (A.a (Fc.b f))) (List.length (lat x.above (Fc.b f))) (Prod.snd (A.a (Fc.b f)))), (15, .int .i64 (List.length (lat x.above (Fc.b f)) : Int)), (16, .int .i64 (y.1.1 : Int))]) (fun y => ((b1, .cells (Fc.cells f).toArray 41 (0, 0)) :: y.1.2)) (fun y => [gF B E, pF B pm A, aF B x A, uF B x A, oF B x A, iF B x A, rF B x A, sF B x A, E.ef]) (fun y => List.length (lat x.above (Fc.b f)) - y.1.1) ⟨((0 : Nat), Hs), by simp, by exact hS⟩ ⟨rfl, rfl, rfl, rfl, rfl, trivial⟩ (l_ i_ ba_) (fun _ _ h => h) ?_
 rintro ⟨⟨i, Hs_i⟩, hi_i, hS_i⟩
 dsimp only at hi_i hS_i ⊢
 have hb_i := (hxl (Fc.b f)).1
 refine f_ (c_ (x_ (az_ rfl rfl) rfl fun r1 hr1 => ?_))
 refine d_ (b_ rfl (f_ ?_))
 cases r1
 ·
  replace hr1 := of_decide_eq_false hr1
  refine p_ rfl (aD_ rfl (aO_ rfl ?_))
  exact cn_ Tryz.results108 ⟨Hs_i, by unfold fe_; rw [List.take_of_length_le (by omega)] at hS_i; exact hS_i⟩ rfl ai_ (fun _ _ _ => trivial)
 ·
  replace hr1 := of_decide_eq_true hr1
  have hlx1 : i < List.length (lat x.above (Fc.b f)) := by omega
  obtain ⟨x1, hx1⟩ : ∃ e0, (lat x.above (Fc.b f))[i]? = some e0 := ⟨_, List.getElem?_eq_getElem hlx1⟩
  have hmx1 : x1 ∈ (lat x.above (Fc.b f)) := List.mem_of_getElem? hx1
  refine n_ rfl (A_ (b_ rfl (f_ (S_ (f_ (c_ (a_ (ak_ P_ s_ rfl rfl (fun v _ h => aL_ (n := 1) aX_ (by decide) (by exact (bI_ h.2.2.1 (Fc.b f))) hx1) (by omega) (by first | omega | (simp; done))) rfl (a_ (bH_ (ad := (Prod.fst (A.a (Fc.b f)))) w_ rfl (fun v _ h => by exact (bI_ h.2.2.1 (Fc.b f))) (an_ aX_ hx1 0 _ rfl)) rfl (a_ (g_ rfl) rfl ?_)))))))))
  refine d_ (b_ rfl (f_ ?_))
  refine aN_ (by kernel_rfl) ?_
  refine ad_ 0 [0, 1, 2, 3, 4, 5, 6, 7, 8, 9, 10] (by kernel_rfl) (fun _ a b => ⟨a, b⟩) (k_ rfl (h_ rfl) rfl (k_ rfl (af_ rfl) rfl (k_ rfl (j_ D_ rfl rfl rfl dq_) rfl (k_ rfl (aa_ ee_ rfl (fun v _ h => by exact h.1) rfl) rfl (k_ rfl (j_ u_ rfl rfl rfl s_) rfl (k_ rfl (q_ 0 w_ rfl rfl rfl) rfl (k_ rfl (h_ rfl) rfl (k_ rfl (ag_ ep_ rfl rfl) rfl (k_ rfl (ci_ (k := (Ky.mk 4 (Fc.r f) x1)) (adr := A.p) gy_ cd_ cx_ rfl rfl (fun v _ h => by exact h.2.1)) rfl ?_)))))))))
  refine k_ rfl (ah_ G_ rfl) rfl (k_ rfl (h_ rfl) rfl (ac_ (ab_ (by kernel_rfl) (b_ rfl (S_ ?_)))))
  refine aV_ (ι := {y : Nat × Hp // y.1 ≤ List.length (lat pm (Ky.mk 4 (Fc.r f) x1)) ∧ E.St (emits E.stp (List.map (fun a => aG_ (Fc.a f) (Pc.c a)) (List.take y.1 (lat pm (Ky.mk 4 (Fc.r f) x1)))) (emits E.stp (List.flatMap (fun y => List.map (fun a => aG_ (Fc.a f) (Pc.c a)) (lat pm (Ky.mk 4 (Fc.r f) y))) (List.take i (lat x.above (Fc.b f)))) nw)) fm y.2}) (fun y => [(0, zp_ B.g 0), (3, zp_ b1 0), (14, .slice (Prod.fst (A.a (Fc.b f))) (List.length (lat x.above (Fc.b f))) (Prod.snd (A.a (Fc.b f)))), (15, .int .i64 (List.length (lat x.above (Fc.b f)) : Int)), (16, .int .i64 (i : Int)), (28, .slice (Prod.fst (A.p (Ky.mk 4 (Fc.r f) x1))) (List.length (lat pm (Ky.mk 4 (Fc.r f) x1))) (Prod.snd (A.p (Ky.mk 4 (Fc.r f) x1)))), (29, .int .i64 (List.length (lat pm (Ky.mk 4 (Fc.r f) x1)) : Int)), (30, .int .i64 (y.1.1 : Int))]) (fun y => ((b1, .cells (Fc.cells f).toArray 41 (0, 0)) :: y.1.2)) (fun y => [gF B E, pF B pm A, aF B x A, uF B x A, oF B x A, iF B x A, rF B x A, sF B x A, E.ef]) (fun y => List.length (lat pm (Ky.mk 4 (Fc.r f) x1)) - y.1.1) ⟨((0 : Nat), Hs_i), by simp, by exact hS_i⟩ ⟨rfl, rfl, rfl, rfl, rfl, rfl, rfl, rfl, trivial⟩ (l_ i_ ba_) (fun _ _ h => h) ?_
  rintro ⟨⟨j, Hs_j⟩, hi_j, hS_j⟩
  dsimp only at hi_j hS_j ⊢
  have hb_j := hpl (Ky.mk 4 (Fc.r f) x1)
  refine f_ (c_ (x_ (az_ rfl rfl) rfl fun r2 hr2 => ?_))
  refine d_ (b_ rfl (f_ ?_))
  cases r2
  ·
   replace hr2 := of_decide_eq_false hr2
   refine p_ rfl (aD_ rfl (b_ rfl (c_ (a_ (V_ rfl rfl rfl (aq_ (by omega) (by omega))) rfl (a_ (h_ rfl) rfl (d_ (r_ rfl ?_)))))))
   exact ao_ ⟨(i + 1, Hs_j), hlx1, (by rw [fS_ hx1, aQ_]; have e9 : List.take j (lat pm (Ky.mk 4 (Fc.r f) x1)) = (lat pm (Ky.mk 4 (Fc.r f) x1)) := List.take_of_length_le (by omega); rw [e9] at hS_j; exact hS_j)⟩ (by dsimp only; omega) ⟨rfl, rfl, rfl, rfl, rfl, trivial⟩ (l_ i_ ba_) (fun _ _ h => h)
  ·
   replace hr2 := of_decide_eq_true hr2
   have hlx2 : j < List.length (lat pm (Ky.mk 4 (Fc.r f) x1)) := by omega
   obtain ⟨x2, hx2⟩ : ∃ e0, (lat pm (Ky.mk 4 (Fc.r f) x1))[j]? = some e0 := ⟨_, List.getElem?_eq_getElem hlx2⟩
   have hmx2 : x2 ∈ (lat pm (Ky.mk 4 (Fc.r f) x1)) := List.mem_of_getElem? hx2
   refine n_ rfl (A_ (b_ rfl (f_ (S_ (f_ (c_ (a_ (ak_ G_ U_ rfl rfl (fun v _ h => aL_ (n := 10) Pc.cells_len (by decide) (by exact (bI_ h.2.1 (Ky.mk 4 (Fc.r f) x1))) hx2) (by omega) (by first | omega | (simp; done))) rfl (a_ (aE_ (ad := (Prod.fst (A.p (Ky.mk 4 (Fc.r f) x1)))) (us := Pc.cells x2) bh_ U_ rfl (fun v _ h => by exact (bI_ h.2.1 (Ky.mk 4 (Fc.r f) x1))) (Pc.cells_len _) (an_ Pc.cells_len hx2)) rfl (al_ ap_ rfl fun b2 => ?_)))))))))
   refine Z_ 0 U_ rfl rfl rfl rfl rfl rfl (d_ (b_ rfl ?_))
   refine aC_ ((b2, .cells (Pc.cells x2).toArray 47 (0, 0)) :: ((b1, .cells (Fc.cells f).toArray 41 (0, 0)) :: [])) (by kernel_rfl) ?_
   refine ad_ 2 [0, 1, 2, 3, 4, 5, 6, 7] (by kernel_rfl) (fun _ a b => ⟨Vw.sat.sub (a.perm (l_ i_ i_)), b⟩) (k_ rfl (h_ rfl) rfl (k_ rfl (af_ rfl) rfl (k_ rfl (j_ D_ rfl rfl rfl aU_) rfl (k_ rfl (aa_ bz_ rfl (fun v _ h => by exact h.1) rfl) rfl (k_ rfl (j_ u_ rfl rfl rfl s_) rfl (k_ rfl (q_ 1 w_ rfl rfl rfl) rfl (k_ rfl (j_ F_ rfl rfl rfl s_) rfl (k_ rfl (q_ 0 w_ rfl rfl rfl) rfl (ac_ ?_)))))))))
   refine O_ 8 rfl (by kernel_rfl) (Q_ (fs_ (Fc.a f) (Pc.c x2)) rfl W_ (fun _ _ _ => by exact trivial) rfl fun _ => ?_)
   refine d_ (r_ rfl (C_ (fun _ a b => ⟨Vw.sat.sub (a.perm (l_ i_ i_)), b⟩) (O_ 9 rfl (by kernel_rfl) (aH_ (first := []) (cap := E.caps) (E.emit (aG_ (Fc.a f) (Pc.c x2)) (emits E.stp (List.map (fun a => aG_ (Fc.a f) (Pc.c a)) (List.take j (lat pm (Ky.mk 4 (Fc.r f) x1)))) (emits E.stp (List.flatMap (fun y => List.map (fun a => aG_ (Fc.a f) (Pc.c a)) (lat pm (Ky.mk 4 (Fc.r f) y))) (List.take i (lat x.above (Fc.b f)))) nw)) fm Hs_j hS_j) rfl rfl (e_ ai_) (fun v _ h => by exact ⟨h.2.2.2.2.2.2.2.2.1, trivial⟩) rfl fun ⟨Hs1, hS1⟩ => ?_))))
   dsimp only
   refine d_ (r_ rfl (C_ (fun _ a b => ⟨Vw.sat.sub (a.perm (l_ (m_ i_) be_)), b⟩) (ab_ (by kernel_rfl) (b_ rfl (c_ (a_ (V_ rfl rfl rfl (aq_ (by omega) (by omega))) rfl (a_ (h_ rfl) rfl (d_ (r_ rfl ?_)))))))))
   exact ao_ ⟨(j + 1, Hs1), hlx2, (by rw [ex_ hx2, aQ_]; exact hS1)⟩ (by dsimp only; omega) ⟨rfl, rfl, rfl, rfl, rfl, rfl, rfl, rfl, trivial⟩ (l_ (m_ (e_ i_)) z_) (fun _ _ h => h)
theorem so_ (B : EngB) (E : Emt Tryz.prog 41) (A : EngA) (pm : List (Ky × Pc)) (x : Ix) (f : Fc) (nw fm : List Fc) (Hs : Hp) (hS : E.St nw fm Hs) (hpl : ∀ k, (lat pm k).length ≤ 1000000000) (hxl : ∀ k, (lat x.above k).length ≤ 1000000000 ∧ (lat x.under k).length ≤ 1000000000) (hyl : ∀ k, (lat x.frm k).length ≤ 1000000000 ∧ (lat x.into k).length ≤ 1000000000 ∧ (lat x.ranges k).length ≤ 1000000000 ∧ (lat x.firms k).length ≤ 1000000000) : Tri Tryz.prog 107 #[zp_ B.g 0, Fc.val f] Hs [gF B E, pF B pm A, aF B x A, uF B x A, oF B x A, iF B x A, rF B x A, sF B x A, E.ef] (fun _ : {H' : Hp // E.St (emits E.stp (eY_ pm x f ++ gt_ pm x f) nw) fm H'} => .tuple #[]) (fun y => y.1) (fun _ => []) := by
 refine M_ Tryz.func107 rfl rfl Tryz.ntmps107 rfl fun v0 => ?_
 refine f_ (c_ (aF_ rfl rfl fun b1 => ?_))
 refine d_ (b_ rfl (f_ (f_ ?_)))
 refine aN_ (by kernel_rfl) ?_
 refine ad_ 0 [0, 1, 2, 3, 4, 5, 6, 7, 8, 9] (by kernel_rfl) (fun _ a b => ⟨a, b⟩) (k_ rfl (h_ rfl) rfl (k_ rfl (af_ rfl) rfl (k_ rfl (j_ D_ rfl rfl rfl dq_) rfl (k_ rfl (aa_ ee_ rfl (fun v _ h => by exact h.1) rfl) rfl (k_ rfl (j_ u_ rfl rfl rfl s_) rfl (k_ rfl (q_ 0 w_ rfl rfl rfl) rfl (k_ rfl (ag_ ep_ rfl rfl) rfl (k_ rfl (ci_ (k := (Ky.mk 6 (Fc.r f) [])) (adr := A.p) gy_ cd_ cx_ rfl rfl (fun v _ h => by exact h.2.1)) rfl (k_ rfl (ah_ G_ rfl) rfl ?_)))))))))
 refine k_ rfl (h_ rfl) rfl (ac_ (ab_ (by kernel_rfl) (b_ rfl (S_ ?_))))
 refine aV_ (ι := {y : Nat × Hp // y.1 ≤ List.length (lat pm (Ky.mk 6 (Fc.r f) [])) ∧ E.St (emits E.stp (List.flatMap (fun y => List.map (fun a => aP_ (Fc.a f) (Pc.t y) a) (lat x.frm (Fc.b f, Pc.s y))) (List.take y.1 (lat pm (Ky.mk 6 (Fc.r f) [])))) nw) fm y.2}) (fun y => [(0, zp_ B.g 0), (3, zp_ b1 0), (19, .slice (Prod.fst (A.p (Ky.mk 6 (Fc.r f) []))) (List.length (lat pm (Ky.mk 6 (Fc.r f) []))) (Prod.snd (A.p (Ky.mk 6 (Fc.r f) [])))), (20, .int .i64 (List.length (lat pm (Ky.mk 6 (Fc.r f) [])) : Int)), (21, .int .i64 (y.1.1 : Int))]) (fun y => ((b1, .cells (Fc.cells f).toArray 41 (0, 0)) :: y.1.2)) (fun y => [gF B E, pF B pm A, aF B x A, uF B x A, oF B x A, iF B x A, rF B x A, sF B x A, E.ef]) (fun y => List.length (lat pm (Ky.mk 6 (Fc.r f) [])) - y.1.1) ⟨((0 : Nat), Hs), by simp, by exact hS⟩ ⟨rfl, rfl, rfl, rfl, rfl, trivial⟩ (l_ i_ ba_) (fun _ _ h => h) ?_
 rintro ⟨⟨i, Hs_i⟩, hi_i, hS_i⟩
 dsimp only at hi_i hS_i ⊢
 have hb_i := hpl (Ky.mk 6 (Fc.r f) [])
 refine f_ (c_ (x_ (az_ rfl rfl) rfl fun r1 hr1 => ?_))
 refine d_ (b_ rfl (f_ ?_))
 cases r1
 ·
  replace hr1 := of_decide_eq_false hr1
  refine p_ rfl (aD_ rfl (b_ rfl (f_ ?_)))
  refine aN_ (by kernel_rfl) ?_
  refine ad_ 0 [0, 1, 2, 3, 4, 5, 6, 7, 8, 9] (by kernel_rfl) (fun _ a b => ⟨a, b⟩) (k_ rfl (h_ rfl) rfl (k_ rfl (af_ rfl) rfl (k_ rfl (j_ D_ rfl rfl rfl dq_) rfl (k_ rfl (aa_ ee_ rfl (fun v _ h => by exact h.1) rfl) rfl (k_ rfl (j_ u_ rfl rfl rfl s_) rfl (k_ rfl (q_ 0 w_ rfl rfl rfl) rfl (k_ rfl (ag_ ep_ rfl rfl) rfl (k_ rfl (ci_ (k := (Ky.mk 6 [] (Fc.r f))) (adr := A.p) gy_ cd_ cx_ rfl rfl (fun v _ h => by exact h.2.1)) rfl (k_ rfl (ah_ G_ rfl) rfl ?_)))))))))
  refine k_ rfl (h_ rfl) rfl (ac_ (ab_ (by kernel_rfl) (b_ rfl (S_ ?_))))
  refine aV_ (ι := {y : Nat × Hp // y.1 ≤ List.length (lat pm (Ky.mk 6 [] (Fc.r f))) ∧ E.St (emits E.stp (List.flatMap (fun y => List.map (fun a => aP_ a (Pc.t y) (Fc.b f)) (lat x.into (Fc.a f, Pc.r y))) (List.take y.1 (lat pm (Ky.mk 6 [] (Fc.r f))))) (emits E.stp (eY_ pm x f) nw)) fm y.2}) (fun y => [(0, zp_ B.g 0), (3, zp_ b1 0), (19, .slice (Prod.fst (A.p (Ky.mk 6 (Fc.r f) []))) (List.length (lat pm (Ky.mk 6 (Fc.r f) []))) (Prod.snd (A.p (Ky.mk 6 (Fc.r f) [])))), (20, .int .i64 (List.length (lat pm (Ky.mk 6 (Fc.r f) [])) : Int)), (21, .int .i64 (i : Int)), (60, .slice (Prod.fst (A.p (Ky.mk 6 [] (Fc.r f)))) (List.length (lat pm (Ky.mk 6 [] (Fc.r f)))) (Prod.snd (A.p (Ky.mk 6 [] (Fc.r f))))), (61, .int .i64 (List.length (lat pm (Ky.mk 6 [] (Fc.r f))) : Int)), (62, .int .i64 (y.1.1 : Int))]) (fun y => ((b1, .cells (Fc.cells f).toArray 41 (0, 0)) :: y.1.2)) (fun y => [gF B E, pF B pm A, aF B x A, uF B x A, oF B x A, iF B x A, rF B x A, sF B x A, E.ef]) (fun y => List.length (lat pm (Ky.mk 6 [] (Fc.r f))) - y.1.1) ⟨((0 : Nat), Hs_i), by simp, by have e9 : List.take i (lat pm (Ky.mk 6 (Fc.r f) [])) = (lat pm (Ky.mk 6 (Fc.r f) [])) := List.take_of_length_le (by omega); rw [e9] at hS_i; exact hS_i⟩ ⟨rfl, rfl, rfl, rfl, rfl, rfl, rfl, rfl, trivial⟩ (l_ i_ ba_) (fun _ _ h => h) ?_
  rintro ⟨⟨k, Hs_k⟩, hi_k, hS_k⟩
  dsimp only at hi_k hS_k ⊢
  have hb_k := hpl (Ky.mk 6 [] (Fc.r f))
  refine f_ (c_ (x_ (az_ rfl rfl) rfl fun r2 hr2 => ?_))
  refine d_ (b_ rfl (f_ ?_))
  cases r2
  ·
   replace hr2 := of_decide_eq_false hr2
   refine p_ rfl (aD_ rfl (aO_ rfl ?_))
   exact cn_ Tryz.results107 ⟨Hs_k, by rw [aQ_]; unfold gt_; have e8 : List.take k (lat pm (Ky.mk 6 [] (Fc.r f))) = lat pm (Ky.mk 6 [] (Fc.r f)) := List.take_of_length_le (by omega); rw [e8] at hS_k; exact hS_k⟩ rfl ai_ (fun _ _ _ => trivial)
  ·
   replace hr2 := of_decide_eq_true hr2
   have hlx3 : k < List.length (lat pm (Ky.mk 6 [] (Fc.r f))) := by omega
   obtain ⟨x3, hx3⟩ : ∃ e0, (lat pm (Ky.mk 6 [] (Fc.r f)))[k]? = some e0 := ⟨_, List.getElem?_eq_getElem hlx3⟩
   have hmx3 : x3 ∈ (lat pm (Ky.mk 6 [] (Fc.r f))) := List.mem_of_getElem? hx3
   refine n_ rfl (A_ (b_ rfl (f_ (S_ (f_ (c_ (a_ (ak_ G_ U_ rfl rfl (fun v _ h => aL_ (n := 10) Pc.cells_len (by decide) (by exact (bI_ h.2.1 (Ky.mk 6 [] (Fc.r f)))) hx3) (by omega) (by first | omega | (simp; done))) rfl (a_ (aE_ (ad := (Prod.fst (A.p (Ky.mk 6 [] (Fc.r f))))) (us := Pc.cells x3) bh_ U_ rfl (fun v _ h => by exact (bI_ h.2.1 (Ky.mk 6 [] (Fc.r f)))) (Pc.cells_len _) (an_ Pc.cells_len hx3)) rfl (al_ ap_ rfl fun b2 => ?_)))))))))
   refine Z_ 0 U_ rfl rfl rfl rfl rfl rfl (d_ (b_ rfl (f_ ?_)))
   refine aN_ (by kernel_rfl) ?_
   refine ad_ 0 [0, 1, 2, 3, 4, 5, 6, 7, 8, 9, 10, 11] (by kernel_rfl) (fun _ a b => ⟨a, b⟩) (k_ rfl (h_ rfl) rfl (k_ rfl (af_ rfl) rfl (k_ rfl (j_ D_ rfl rfl rfl dp_) rfl (k_ rfl (aa_ ed_ rfl (fun v _ h => by exact h.1) rfl) rfl (k_ rfl (j_ u_ rfl rfl rfl s_) rfl (k_ rfl (q_ 1 w_ rfl rfl rfl) rfl (k_ rfl (j_ F_ rfl rfl rfl s_) rfl (k_ rfl (q_ 0 w_ rfl rfl rfl) rfl (k_ rfl (ag_ eU_ rfl rfl) rfl ?_)))))))))
   refine k_ rfl (ci_ (k := ((Fc.a f), (Pc.r x3))) (adr := A.i) cR_ cc_ by_ rfl rfl (fun v _ h => by exact h.2.2.2.2.2.1)) rfl (k_ rfl (ah_ P_ rfl) rfl (k_ rfl (h_ rfl) rfl (ac_ (ab_ (by kernel_rfl) (b_ rfl (S_ ?_))))))
   refine aV_ (ι := {y : Nat × Hp // y.1 ≤ List.length (lat x.into ((Fc.a f), (Pc.r x3))) ∧ E.St (emits E.stp (List.map (fun a => aP_ a (Pc.t x3) (Fc.b f)) (List.take y.1 (lat x.into ((Fc.a f), (Pc.r x3))))) (emits E.stp (List.flatMap (fun y => List.map (fun a => aP_ a (Pc.t y) (Fc.b f)) (lat x.into (Fc.a f, Pc.r y))) (List.take k (lat pm (Ky.mk 6 [] (Fc.r f))))) (emits E.stp (eY_ pm x f) nw))) fm y.2}) (fun y => [(0, zp_ B.g 0), (3, zp_ b1 0), (19, .slice (Prod.fst (A.p (Ky.mk 6 (Fc.r f) []))) (List.length (lat pm (Ky.mk 6 (Fc.r f) []))) (Prod.snd (A.p (Ky.mk 6 (Fc.r f) [])))), (20, .int .i64 (List.length (lat pm (Ky.mk 6 (Fc.r f) [])) : Int)), (21, .int .i64 (i : Int)), (60, .slice (Prod.fst (A.p (Ky.mk 6 [] (Fc.r f)))) (List.length (lat pm (Ky.mk 6 [] (Fc.r f)))) (Prod.snd (A.p (Ky.mk 6 [] (Fc.r f))))), (61, .int .i64 (List.length (lat pm (Ky.mk 6 [] (Fc.r f))) : Int)), (62, .int .i64 (k : Int)), (9, zp_ b2 0), (75, .slice (Prod.fst (A.i ((Fc.a f), (Pc.r x3)))) (List.length (lat x.into ((Fc.a f), (Pc.r x3)))) (Prod.snd (A.i ((Fc.a f), (Pc.r x3))))), (76, .int .i64 (List.length (lat x.into ((Fc.a f), (Pc.r x3))) : Int)), (77, .int .i64 (y.1.1 : Int))]) (fun y => ((b2, .cells (Pc.cells x3).toArray 47 (0, 0)) :: ((b1, .cells (Fc.cells f).toArray 41 (0, 0)) :: y.1.2))) (fun y => [gF B E, pF B pm A, aF B x A, uF B x A, oF B x A, iF B x A, rF B x A, sF B x A, E.ef]) (fun y => List.length (lat x.into ((Fc.a f), (Pc.r x3))) - y.1.1) ⟨((0 : Nat), Hs_k), by simp, by exact hS_k⟩ ⟨rfl, rfl, rfl, rfl, rfl, rfl, rfl, rfl, rfl, rfl, rfl, rfl, trivial⟩ (l_ i_ (l_ i_ ba_)) (fun _ _ h => h) ?_
   rintro ⟨⟨l, Hs_l⟩, hi_l, hS_l⟩
   dsimp only at hi_l hS_l ⊢
   have hb_l := (hyl ((Fc.a f), (Pc.r x3))).2.1
   refine f_ (c_ (x_ (az_ rfl rfl) rfl fun r3 hr3 => ?_))
   refine d_ (b_ rfl (f_ ?_))
   cases r3
   ·
    replace hr3 := of_decide_eq_false hr3
    refine p_ rfl (aD_ rfl (b_ rfl (c_ (a_ (V_ rfl rfl rfl (aq_ (by omega) (by omega))) rfl (a_ (h_ rfl) rfl (d_ (r_ rfl ?_)))))))
    exact ao_ ⟨(k + 1, Hs_l), hlx3, (by rw [fS_ hx3, aQ_]; have e9 : List.take l (lat x.into (Fc.a f, Pc.r x3)) = (lat x.into (Fc.a f, Pc.r x3)) := List.take_of_length_le (by omega); rw [e9] at hS_l; exact hS_l)⟩ (by dsimp only; omega) ⟨rfl, rfl, rfl, rfl, rfl, rfl, rfl, rfl, trivial⟩ (l_ (e_ i_) ai_) (fun _ _ h => h)
   ·
    replace hr3 := of_decide_eq_true hr3
    have hlx4 : l < List.length (lat x.into ((Fc.a f), (Pc.r x3))) := by omega
    obtain ⟨x4, hx4⟩ : ∃ e0, (lat x.into ((Fc.a f), (Pc.r x3)))[l]? = some e0 := ⟨_, List.getElem?_eq_getElem hlx4⟩
    have hmx4 : x4 ∈ (lat x.into ((Fc.a f), (Pc.r x3))) := List.mem_of_getElem? hx4
    refine n_ rfl (A_ (b_ rfl (f_ (S_ (f_ (c_ (a_ (ak_ P_ s_ rfl rfl (fun v _ h => aL_ (n := 1) aX_ (by decide) (by exact (bI_ h.2.2.2.2.2.1 ((Fc.a f), (Pc.r x3)))) hx4) (by omega) (by first | omega | (simp; done))) rfl (a_ (bH_ (ad := (Prod.fst (A.i ((Fc.a f), (Pc.r x3))))) w_ rfl (fun v _ h => by exact (bI_ h.2.2.2.2.2.1 ((Fc.a f), (Pc.r x3)))) (an_ aX_ hx4 0 _ rfl)) rfl (a_ (g_ rfl) rfl ?_)))))))))
    refine d_ (b_ rfl ?_)
    refine aC_ ((b2, .cells (Pc.cells x3).toArray 47 (0, 0)) :: ((b1, .cells (Fc.cells f).toArray 41 (0, 0)) :: [])) (by kernel_rfl) ?_
    refine ad_ 2 [0, 1, 2, 3, 4, 5, 6, 7, 8] (by kernel_rfl) (fun _ a b => ⟨Vw.sat.sub (a.perm (l_ i_ i_)), b⟩) (k_ rfl (h_ rfl) rfl (k_ rfl (af_ rfl) rfl (k_ rfl (j_ D_ rfl rfl rfl aU_) rfl (k_ rfl (aa_ bz_ rfl (fun v _ h => by exact h.1) rfl) rfl (k_ rfl (h_ rfl) rfl (k_ rfl (j_ F_ rfl rfl rfl s_) rfl (k_ rfl (q_ 0 w_ rfl rfl rfl) rfl (k_ rfl (j_ u_ rfl rfl rfl s_) rfl (k_ rfl (q_ 1 w_ rfl rfl rfl) rfl ?_)))))))))
    refine ac_ (O_ 9 rfl (by kernel_rfl) (Q_ (jR_ x4 (Pc.t x3) (Fc.b f)) rfl W_ (fun _ _ _ => by exact trivial) rfl fun _ => ?_))
    refine d_ (r_ rfl (C_ (fun _ a b => ⟨Vw.sat.sub (a.perm (l_ i_ i_)), b⟩) (O_ 10 rfl (by kernel_rfl) (aH_ (first := []) (cap := E.caps) (E.emit (aP_ x4 (Pc.t x3) (Fc.b f)) (emits E.stp (List.map (fun a => aP_ a (Pc.t x3) (Fc.b f)) (List.take l (lat x.into ((Fc.a f), (Pc.r x3))))) (emits E.stp (List.flatMap (fun y => List.map (fun a => aP_ a (Pc.t y) (Fc.b f)) (lat x.into (Fc.a f, Pc.r y))) (List.take k (lat pm (Ky.mk 6 [] (Fc.r f))))) (emits E.stp (eY_ pm x f) nw))) fm Hs_l hS_l) rfl rfl (e_ ai_) (fun v _ h => by exact ⟨h.2.2.2.2.2.2.2.2.1, trivial⟩) rfl fun ⟨Hs1, hS1⟩ => ?_))))
    dsimp only
    refine d_ (r_ rfl (C_ (fun _ a b => ⟨Vw.sat.sub (a.perm (l_ (m_ i_) be_)), b⟩) (ab_ (by kernel_rfl) (b_ rfl (c_ (a_ (V_ rfl rfl rfl (aq_ (by omega) (by omega))) rfl (a_ (h_ rfl) rfl (d_ (r_ rfl ?_)))))))))
    exact ao_ ⟨(l + 1, Hs1), hlx4, (by rw [ex_ hx4, aQ_]; exact hS1)⟩ (by dsimp only; omega) ⟨rfl, rfl, rfl, rfl, rfl, rfl, rfl, rfl, rfl, rfl, rfl, rfl, trivial⟩ (l_ (m_ i_) (l_ be_ ba_)) (fun _ _ h => h)
 ·
  replace hr1 := of_decide_eq_true hr1
  have hlx1 : i < List.length (lat pm (Ky.mk 6 (Fc.r f) [])) := by omega
  obtain ⟨x1, hx1⟩ : ∃ e0, (lat pm (Ky.mk 6 (Fc.r f) []))[i]? = some e0 := ⟨_, List.getElem?_eq_getElem hlx1⟩
  have hmx1 : x1 ∈ (lat pm (Ky.mk 6 (Fc.r f) [])) := List.mem_of_getElem? hx1
  refine n_ rfl (A_ (b_ rfl (f_ (S_ (f_ (c_ (a_ (ak_ G_ U_ rfl rfl (fun v _ h => aL_ (n := 10) Pc.cells_len (by decide) (by exact (bI_ h.2.1 (Ky.mk 6 (Fc.r f) []))) hx1) (by omega) (by first | omega | (simp; done))) rfl (a_ (aE_ (ad := (Prod.fst (A.p (Ky.mk 6 (Fc.r f) [])))) (us := Pc.cells x1) bh_ U_ rfl (fun v _ h => by exact (bI_ h.2.1 (Ky.mk 6 (Fc.r f) []))) (Pc.cells_len _) (an_ Pc.cells_len hx1)) rfl (al_ ap_ rfl fun b3 => ?_)))))))))
  refine Z_ 0 U_ rfl rfl rfl rfl rfl rfl (d_ (b_ rfl (f_ ?_)))
  refine aN_ (by kernel_rfl) ?_
  refine ad_ 0 [0, 1, 2, 3, 4, 5, 6, 7, 8, 9, 10, 11] (by kernel_rfl) (fun _ a b => ⟨a, b⟩) (k_ rfl (h_ rfl) rfl (k_ rfl (af_ rfl) rfl (k_ rfl (j_ D_ rfl rfl rfl dp_) rfl (k_ rfl (aa_ ed_ rfl (fun v _ h => by exact h.1) rfl) rfl (k_ rfl (j_ u_ rfl rfl rfl s_) rfl (k_ rfl (q_ 1 w_ rfl rfl rfl) rfl (k_ rfl (j_ F_ rfl rfl rfl s_) rfl (k_ rfl (q_ 0 w_ rfl rfl rfl) rfl (k_ rfl (ag_ eU_ rfl rfl) rfl ?_)))))))))
  refine k_ rfl (ci_ (k := ((Fc.b f), (Pc.s x1))) (adr := A.o) cR_ cc_ by_ rfl rfl (fun v _ h => by exact h.2.2.2.2.1)) rfl (k_ rfl (ah_ P_ rfl) rfl (k_ rfl (h_ rfl) rfl (ac_ (ab_ (by kernel_rfl) (b_ rfl (S_ ?_))))))
  refine aV_ (ι := {y : Nat × Hp // y.1 ≤ List.length (lat x.frm ((Fc.b f), (Pc.s x1))) ∧ E.St (emits E.stp (List.map (fun a => aP_ (Fc.a f) (Pc.t x1) a) (List.take y.1 (lat x.frm ((Fc.b f), (Pc.s x1))))) (emits E.stp (List.flatMap (fun y => List.map (fun a => aP_ (Fc.a f) (Pc.t y) a) (lat x.frm (Fc.b f, Pc.s y))) (List.take i (lat pm (Ky.mk 6 (Fc.r f) [])))) nw)) fm y.2}) (fun y => [(0, zp_ B.g 0), (3, zp_ b1 0), (19, .slice (Prod.fst (A.p (Ky.mk 6 (Fc.r f) []))) (List.length (lat pm (Ky.mk 6 (Fc.r f) []))) (Prod.snd (A.p (Ky.mk 6 (Fc.r f) [])))), (20, .int .i64 (List.length (lat pm (Ky.mk 6 (Fc.r f) [])) : Int)), (21, .int .i64 (i : Int)), (5, zp_ b3 0), (34, .slice (Prod.fst (A.o ((Fc.b f), (Pc.s x1)))) (List.length (lat x.frm ((Fc.b f), (Pc.s x1)))) (Prod.snd (A.o ((Fc.b f), (Pc.s x1))))), (35, .int .i64 (List.length (lat x.frm ((Fc.b f), (Pc.s x1))) : Int)), (36, .int .i64 (y.1.1 : Int))]) (fun y => ((b3, .cells (Pc.cells x1).toArray 47 (0, 0)) :: ((b1, .cells (Fc.cells f).toArray 41 (0, 0)) :: y.1.2))) (fun y => [gF B E, pF B pm A, aF B x A, uF B x A, oF B x A, iF B x A, rF B x A, sF B x A, E.ef]) (fun y => List.length (lat x.frm ((Fc.b f), (Pc.s x1))) - y.1.1) ⟨((0 : Nat), Hs_i), by simp, by exact hS_i⟩ ⟨rfl, rfl, rfl, rfl, rfl, rfl, rfl, rfl, rfl, trivial⟩ (l_ i_ (l_ i_ ba_)) (fun _ _ h => h) ?_
  rintro ⟨⟨j, Hs_j⟩, hi_j, hS_j⟩
  dsimp only at hi_j hS_j ⊢
  have hb_j := (hyl ((Fc.b f), (Pc.s x1))).1
  refine f_ (c_ (x_ (az_ rfl rfl) rfl fun r4 hr4 => ?_))
  refine d_ (b_ rfl (f_ ?_))
  cases r4
  ·
   replace hr4 := of_decide_eq_false hr4
   refine p_ rfl (aD_ rfl (b_ rfl (c_ (a_ (V_ rfl rfl rfl (aq_ (by omega) (by omega))) rfl (a_ (h_ rfl) rfl (d_ (r_ rfl ?_)))))))
   exact ao_ ⟨(i + 1, Hs_j), hlx1, (by rw [fS_ hx1, aQ_]; have e9 : List.take j (lat x.frm (Fc.b f, Pc.s x1)) = (lat x.frm (Fc.b f, Pc.s x1)) := List.take_of_length_le (by omega); rw [e9] at hS_j; exact hS_j)⟩ (by dsimp only; omega) ⟨rfl, rfl, rfl, rfl, rfl, trivial⟩ (l_ (e_ i_) ai_) (fun _ _ h => h)
  ·
   replace hr4 := of_decide_eq_true hr4
   have hlx2 : j < List.length (lat x.frm ((Fc.b f), (Pc.s x1))) := by omega
   obtain ⟨x2, hx2⟩ : ∃ e0, (lat x.frm ((Fc.b f), (Pc.s x1)))[j]? = some e0 := ⟨_, List.getElem?_eq_getElem hlx2⟩
   have hmx2 : x2 ∈ (lat x.frm ((Fc.b f), (Pc.s x1))) := List.mem_of_getElem? hx2
   refine n_ rfl (A_ (b_ rfl (f_ (S_ (f_ (c_ (a_ (ak_ P_ s_ rfl rfl (fun v _ h => aL_ (n := 1) aX_ (by decide) (by exact (bI_ h.2.2.2.2.1 ((Fc.b f), (Pc.s x1)))) hx2) (by omega) (by first | omega | (simp; done))) rfl (a_ (bH_ (ad := (Prod.fst (A.o ((Fc.b f), (Pc.s x1))))) w_ rfl (fun v _ h => by exact (bI_ h.2.2.2.2.1 ((Fc.b f), (Pc.s x1)))) (an_ aX_ hx2 0 _ rfl)) rfl (a_ (g_ rfl) rfl ?_)))))))))
   refine d_ (b_ rfl ?_)
   refine aC_ ((b3, .cells (Pc.cells x1).toArray 47 (0, 0)) :: ((b1, .cells (Fc.cells f).toArray 41 (0, 0)) :: [])) (by kernel_rfl) ?_
   refine ad_ 2 [0, 1, 2, 3, 4, 5, 6, 7, 8] (by kernel_rfl) (fun _ a b => ⟨Vw.sat.sub (a.perm (l_ i_ i_)), b⟩) (k_ rfl (h_ rfl) rfl (k_ rfl (af_ rfl) rfl (k_ rfl (j_ D_ rfl rfl rfl aU_) rfl (k_ rfl (aa_ bz_ rfl (fun v _ h => by exact h.1) rfl) rfl (k_ rfl (j_ u_ rfl rfl rfl s_) rfl (k_ rfl (q_ 1 w_ rfl rfl rfl) rfl (k_ rfl (j_ F_ rfl rfl rfl s_) rfl (k_ rfl (q_ 0 w_ rfl rfl rfl) rfl (k_ rfl (h_ rfl) rfl ?_)))))))))
   refine ac_ (O_ 9 rfl (by kernel_rfl) (Q_ (jR_ (Fc.a f) (Pc.t x1) x2) rfl W_ (fun _ _ _ => by exact trivial) rfl fun _ => ?_))
   refine d_ (r_ rfl (C_ (fun _ a b => ⟨Vw.sat.sub (a.perm (l_ i_ i_)), b⟩) (O_ 10 rfl (by kernel_rfl) (aH_ (first := []) (cap := E.caps) (E.emit (aP_ (Fc.a f) (Pc.t x1) x2) (emits E.stp (List.map (fun a => aP_ (Fc.a f) (Pc.t x1) a) (List.take j (lat x.frm ((Fc.b f), (Pc.s x1))))) (emits E.stp (List.flatMap (fun y => List.map (fun a => aP_ (Fc.a f) (Pc.t y) a) (lat x.frm (Fc.b f, Pc.s y))) (List.take i (lat pm (Ky.mk 6 (Fc.r f) [])))) nw)) fm Hs_j hS_j) rfl rfl (e_ ai_) (fun v _ h => by exact ⟨h.2.2.2.2.2.2.2.2.1, trivial⟩) rfl fun ⟨Hs2, hS2⟩ => ?_))))
   dsimp only
   refine d_ (r_ rfl (C_ (fun _ a b => ⟨Vw.sat.sub (a.perm (l_ (m_ i_) be_)), b⟩) (ab_ (by kernel_rfl) (b_ rfl (c_ (a_ (V_ rfl rfl rfl (aq_ (by omega) (by omega))) rfl (a_ (h_ rfl) rfl (d_ (r_ rfl ?_)))))))))
   exact ao_ ⟨(j + 1, Hs2), hlx2, (by rw [ex_ hx2, aQ_]; exact hS2)⟩ (by dsimp only; omega) ⟨rfl, rfl, rfl, rfl, rfl, rfl, rfl, rfl, rfl, trivial⟩ (l_ (m_ i_) (l_ be_ ba_)) (fun _ _ h => h)
theorem nj_ (B : EngB) (E : Emt Tryz.prog 41) (A : EngA) (pm : List (Ky × Pc)) (x : Ix) (f : Fc) (nw fm : List Fc) (Hs : Hp) (hS : E.St nw fm Hs) (hpl : ∀ k, (lat pm k).length ≤ 1000000000) (hxl : ∀ k, (lat x.above k).length ≤ 1000000000 ∧ (lat x.under k).length ≤ 1000000000) (hyl : ∀ k, (lat x.frm k).length ≤ 1000000000 ∧ (lat x.into k).length ≤ 1000000000 ∧ (lat x.ranges k).length ≤ 1000000000 ∧ (lat x.firms k).length ≤ 1000000000) : Tri Tryz.prog 104 #[zp_ B.g 0, Fc.val f] Hs [gF B E, pF B pm A, aF B x A, uF B x A, oF B x A, iF B x A, rF B x A, sF B x A, E.ef] (fun _ : {H' : Hp // E.St (emits E.stp (dm_ x f) nw) fm H'} => .tuple #[]) (fun y => y.1) (fun _ => []) := by
 refine M_ Tryz.func104 rfl rfl Tryz.ntmps104 rfl fun v0 => ?_
 refine f_ (c_ (aF_ rfl rfl fun b1 => ?_))
 refine d_ (b_ rfl (f_ (c_ (a_ (j_ u_ rfl rfl rfl s_) rfl (a_ (q_ 0 w_ rfl rfl rfl) rfl (x_ (bv_ rfl rfl) rfl fun r1 hr1 => ?_))))))
 refine d_ (b_ rfl ?_)
 cases r1
 ·
  replace hr1 := ne_of_beq_false hr1
  refine p_ rfl (A_ (aO_ rfl ?_))
  exact cn_ Tryz.results104 ⟨Hs, by unfold dm_; rw [if_neg (by assumption)]; exact hS⟩ rfl ai_ (fun _ _ _ => trivial)
 ·
  replace hr1 := eq_of_beq hr1
  refine n_ rfl (f_ ?_)
  refine aN_ (by kernel_rfl) ?_
  refine ad_ 0 [0, 1, 2, 3, 4, 5, 6, 7, 8] (by kernel_rfl) (fun _ a b => ⟨a, b⟩) (k_ rfl (h_ rfl) rfl (k_ rfl (af_ rfl) rfl (k_ rfl (j_ D_ rfl rfl rfl hF_) rfl (k_ rfl (aa_ nU_ rfl (fun v _ h => by exact h.1) rfl) rfl (k_ rfl (j_ u_ rfl rfl rfl s_) rfl (k_ rfl (q_ 0 w_ rfl rfl rfl) rfl (k_ rfl (ci_ (k := (Fc.a f)) (adr := A.u) hX_ cr_ by_ rfl rfl (fun v _ h => by exact h.2.2.2.1)) rfl (k_ rfl (ah_ P_ rfl) rfl (k_ rfl (h_ rfl) rfl ?_)))))))))
  refine ac_ (ab_ (by kernel_rfl) (b_ rfl (S_ ?_)))
  refine aV_ (ι := {y : Nat × Hp // y.1 ≤ List.length (lat x.under (Fc.a f)) ∧ E.St (emits E.stp (List.map (fun a => aG_ a [33]) (List.take y.1 (lat x.under (Fc.a f)))) nw) fm y.2}) (fun y => [(0, zp_ B.g 0), (15, .slice (Prod.fst (A.u (Fc.a f))) (List.length (lat x.under (Fc.a f))) (Prod.snd (A.u (Fc.a f)))), (16, .int .i64 (List.length (lat x.under (Fc.a f)) : Int)), (17, .int .i64 (y.1.1 : Int))]) (fun y => (y.1.2)) (fun y => [gF B E, pF B pm A, aF B x A, uF B x A, oF B x A, iF B x A, rF B x A, sF B x A, E.ef]) (fun y => List.length (lat x.under (Fc.a f)) - y.1.1) ⟨((0 : Nat), Hs), by simp, by exact hS⟩ ⟨rfl, rfl, rfl, rfl, trivial⟩ ai_ (fun _ _ h => h) ?_
  rintro ⟨⟨i, Hs_i⟩, hi_i, hS_i⟩
  dsimp only at hi_i hS_i ⊢
  have hb_i := (hxl (Fc.a f)).2
  refine f_ (c_ (x_ (az_ rfl rfl) rfl fun r2 hr2 => ?_))
  refine d_ (b_ rfl (f_ ?_))
  cases r2
  ·
   replace hr2 := of_decide_eq_false hr2
   refine p_ rfl (aD_ rfl (aO_ rfl ?_))
   exact cn_ Tryz.results104 ⟨Hs_i, by unfold dm_; rw [if_pos (by assumption)]; rw [List.take_of_length_le (by omega)] at hS_i; exact hS_i⟩ rfl ba_ (fun _ _ _ => trivial)
  ·
   replace hr2 := of_decide_eq_true hr2
   have hlx1 : i < List.length (lat x.under (Fc.a f)) := by omega
   obtain ⟨x1, hx1⟩ : ∃ e0, (lat x.under (Fc.a f))[i]? = some e0 := ⟨_, List.getElem?_eq_getElem hlx1⟩
   have hmx1 : x1 ∈ (lat x.under (Fc.a f)) := List.mem_of_getElem? hx1
   refine n_ rfl (A_ (b_ rfl (f_ (S_ (f_ (c_ (a_ (ak_ P_ s_ rfl rfl (fun v _ h => aL_ (n := 1) aX_ (by decide) (by exact (bI_ h.2.2.2.1 (Fc.a f))) hx1) (by omega) (by first | omega | (simp; done))) rfl (a_ (bH_ (ad := (Prod.fst (A.u (Fc.a f)))) w_ rfl (fun v _ h => by exact (bI_ h.2.2.2.1 (Fc.a f))) (an_ aX_ hx1 0 _ rfl)) rfl (a_ (g_ rfl) rfl ?_)))))))))
   refine d_ (b_ rfl ?_)
   refine aC_ ([]) (by kernel_rfl) ?_
   refine ad_ 2 [0, 1, 2, 3, 4] (by kernel_rfl) (fun _ a b => ⟨er_ a, b⟩) (k_ rfl (h_ rfl) rfl (k_ rfl (af_ rfl) rfl (k_ rfl (j_ D_ rfl rfl rfl aU_) rfl (k_ rfl (aa_ bz_ rfl (fun v _ h => by exact h.1) rfl) rfl (k_ rfl (h_ rfl) rfl (ac_ (O_ 5 rfl (by kernel_rfl) (Q_ (fs_ x1 [33]) rfl W_ (fun _ _ _ => by exact trivial) rfl fun _ => ?_))))))))
   refine at_ ox_ (d_ (r_ rfl (C_ (fun _ a b => ⟨er_ a, b⟩) (O_ 6 rfl (by kernel_rfl) (aH_ (first := []) (cap := E.caps) (E.emit (aG_ x1 [33]) (emits E.stp (List.map (fun a => aG_ a [33]) (List.take i (lat x.under (Fc.a f)))) nw) fm Hs_i hS_i) rfl rfl ba_ (fun v _ h => by exact ⟨h.2.2.2.2.2.2.2.2.1, trivial⟩) rfl fun ⟨Hs1, hS1⟩ => ?_)))))
   dsimp only
   refine at_ hd_ (d_ (r_ rfl (C_ (fun _ a b => ⟨er_ a, b⟩) (ab_ (by kernel_rfl) (b_ rfl (c_ (a_ (V_ rfl rfl rfl (aq_ (by omega) (by omega))) rfl (a_ (h_ rfl) rfl (d_ ?_)))))))))
   refine r_ rfl ?_
   exact ao_ ⟨(i + 1, Hs1), hlx1, (by rw [ex_ hx1, aQ_]; exact hS1)⟩ (by dsimp only; omega) ⟨rfl, rfl, rfl, rfl, trivial⟩ ba_ (fun _ _ h => h)
theorem ni_ (B : EngB) (E : Emt Tryz.prog 41) (A : EngA) (pm : List (Ky × Pc)) (x : Ix) (f : Fc) (nw fm : List Fc) (Hs : Hp) (hS : E.St nw fm Hs) (hpl : ∀ k, (lat pm k).length ≤ 1000000000) (hxl : ∀ k, (lat x.above k).length ≤ 1000000000 ∧ (lat x.under k).length ≤ 1000000000) (hyl : ∀ k, (lat x.frm k).length ≤ 1000000000 ∧ (lat x.into k).length ≤ 1000000000 ∧ (lat x.ranges k).length ≤ 1000000000 ∧ (lat x.firms k).length ≤ 1000000000) : Tri Tryz.prog 109 #[zp_ B.g 0, Fc.val f] Hs [gF B E, pF B pm A, aF B x A, uF B x A, oF B x A, iF B x A, rF B x A, sF B x A, E.ef] (fun _ : {H' : Hp // E.St (if aG_ (Fc.b f) [33] ∈ E.kof nw then E.stp (aG_ (Fc.a f) [33]) nw else nw) fm H'} => .tuple #[]) (fun y => y.1) (fun _ => []) := by
  refine M_ Tryz.func109 rfl rfl Tryz.ntmps109 rfl fun v0 => ?_
  refine f_ (c_ (aF_ rfl rfl fun b1 => ?_))
  refine d_ (b_ rfl (f_ ?_))
  refine aN_ (by kernel_rfl) ?_
  refine ad_ 2 [0, 1, 2, 3, 4, 5] (by kernel_rfl) (fun _ a b => ⟨a, b⟩) (k_ rfl (h_ rfl) rfl (k_ rfl (af_ rfl) rfl (k_ rfl (j_ D_ rfl rfl rfl bT_) rfl (k_ rfl (aa_ ck_ rfl (fun v _ h => by exact h.1) rfl) rfl (k_ rfl (j_ u_ rfl rfl rfl s_) rfl (k_ rfl (q_ 0 w_ rfl rfl rfl) rfl (ac_ (O_ 6 rfl (by kernel_rfl) (Q_ (fs_ (Fc.b f) [33]) rfl W_ (fun _ _ _ => by exact trivial) rfl fun _ => ?_)))))))))
  refine d_ (r_ rfl (C_ (fun _ a b => ⟨a, b⟩) (ad_ 0 [7] (by kernel_rfl) (fun _ a b => ⟨a, b⟩) ?_)))
  refine ds_ rfl (gZ_ (f := (aG_ (Fc.b f) [33])) hS gO_ aZ_ db_ rfl rfl ai_) rfl fun r1 hr1 => ?_
  refine ac_ (ab_ (by kernel_rfl) (b_ rfl ?_))
  cases r1
  · skip
    replace hr1 := of_decide_eq_false hr1
    refine p_ rfl (A_ (aO_ rfl ?_))
    exact cn_ Tryz.results109 ⟨Hs, by first | (rw [if_pos (by assumption)]; exact hS) | (rw [if_neg (by assumption)]; exact hS)⟩ rfl ai_ (fun _ _ _ => trivial)
  · skip
    replace hr1 := of_decide_eq_true hr1
    refine n_ rfl ?_
    refine aC_ ((b1, .cells (Fc.cells f).toArray 41 (0, 0)) :: []) (by kernel_rfl) ?_
    refine ad_ 2 [0, 1, 2, 3, 4, 5] (by kernel_rfl) (fun _ a b => ⟨Vw.sat.sub (a.perm i_), b⟩) (k_ rfl (h_ rfl) rfl (k_ rfl (af_ rfl) rfl (k_ rfl (j_ D_ rfl rfl rfl aU_) rfl (k_ rfl (aa_ bz_ rfl (fun v _ h => by exact h.1) rfl) rfl (k_ rfl (j_ u_ rfl rfl rfl s_) rfl (k_ rfl (q_ 0 w_ rfl rfl rfl) rfl (ac_ (O_ 6 rfl (by kernel_rfl) (Q_ (fs_ (Fc.a f) [33]) rfl W_ (fun _ _ _ => by exact trivial) rfl fun _ => ?_)))))))))
    refine d_ (r_ rfl (C_ (fun _ a b => ⟨Vw.sat.sub (a.perm i_), b⟩) (O_ 7 rfl (by kernel_rfl) (aH_ (first := []) (cap := E.caps) (E.emit (aG_ (Fc.a f) [33]) nw fm Hs hS) rfl rfl ai_ (fun v _ h => by exact ⟨h.2.2.2.2.2.2.2.2.1, trivial⟩) rfl fun ⟨Hs1, hS1⟩ => ?_))))
    dsimp only
    refine d_ (r_ rfl (C_ (fun _ a b => ⟨Vw.sat.sub (a.perm be_), b⟩) (ab_ (by kernel_rfl) (aO_ rfl ?_))))
    exact cn_ Tryz.results109 ⟨Hs1, by first | (rw [if_pos (by assumption)]; exact hS1) | (rw [if_neg (by assumption)]; exact hS1)⟩ rfl z_ (fun _ _ _ => trivial)
end Go.Proofs.YtpdbbglpbngeiaaGreatDoor
namespace Go.Proofs.YtpdbbglpbngeiaaGreatDoor
open Go Go.Sx Go.Proofs
attribute [local irreducible] Code.wp wpList wpAnyH
open Go.Vs
def ivC (i : Int × Int) : List Value := [.int .i64 i.1, .int .i64 i.2]
theorem ls_ (i : Int × Int) : (ivC i).length = 2 := rfl
def ivV (i : Int × Int) : Value := .agg (ivC i).toArray
def fy_ (i : Int × Int) : Int := if min i.1 i.2 < -1099511627776 ∨ 1099511627776 < max i.1 i.2 then 1 else if i.2 < i.1 then 80 else 0
def iy_ (e : Int) (i : Int × Int) : Int := if e ≠ 0 then e else fy_ i
def fD_ (l : List (Int × Int)) : Int := l.foldl iy_ 0
theorem mX_ {l : List (Int × Int)} {i : Nat} {x : Int × Int} (h : l[i]? = some x) : fD_ (List.take (i + 1) l) = iy_ (fD_ (List.take i l)) x := by
  unfold fD_; rw [List.take_add_one, h, Option.toList_some, List.foldl_append]; rfl
def pA_ (a b : Int × Int) : Bool := decide (fD_ [a, b] = 0) && (decide (b.1 ≤ a.1) && decide (a.2 ≤ b.2))
theorem sc_ {a b : Int × Int} (ha : -1099511627776 ≤ a.1 ∧ a.1 ≤ a.2 ∧ a.2 ≤ 1099511627776) (hb : -1099511627776 ≤ b.1 ∧ b.1 ≤ b.2 ∧ b.2 ≤ 1099511627776) : pA_ a b = decide (b.1 ≤ a.1 ∧ a.2 ≤ b.2) := by
  have e : ∀ i : Int × Int, -1099511627776 ≤ i.1 ∧ i.1 ≤ i.2 ∧ i.2 ≤ 1099511627776 → fy_ i = 0 := fun i h => by
    unfold fy_; rw [if_neg (by omega), if_neg (by omega)]
  have e2 : fD_ [a, b] = 0 := by simp [fD_, iy_, e a ha, e b hb]
  unfold pA_; rw [e2, Bool.eq_iff_iff]; simp
theorem op_ : iY_ Tryz.prog 175 [(0, 1), (1, 1)] [.int .i64 0, .int .i64 0] := ⟨_, Tryz.zeroValue175, bW_, fun w => by simp [H_]⟩
theorem pB_ (i : Int × Int) : Fn0 Tryz.prog 206 #[ivV i] (.int .i64 (fy_ i)) := by
  refine M_ Tryz.func206 rfl rfl Tryz.ntmps206 rfl fun v0 => ?_
  refine f_ (c_ (aF_ rfl rfl fun b1 => ?_))
  refine a_ (g_ rfl) rfl (d_ (b_ rfl (f_ (f_ (c_ (a_ (j_ bW_ rfl rfl rfl H_) rfl (a_ (q_ 0 J_ rfl rfl rfl) rfl (a_ (j_ bW_ rfl rfl rfl H_) rfl (a_ (q_ 0 J_ rfl rfl rfl) rfl ?_)))))))))
  refine a_ (hH_ rfl rfl) rfl (x_ (az_ rfl rfl) rfl fun r1 hr1 => ?_)
  refine a_ (h_ rfl) rfl ?_
  cases r1
  · skip
    replace hr1 := of_decide_eq_false hr1
    refine o_ rfl rfl (a_ (j_ bW_ rfl rfl rfl H_) rfl (o_ rfl rfl (a_ (q_ 0 J_ rfl rfl rfl) rfl (o_ rfl rfl (a_ (j_ bW_ rfl rfl rfl H_) rfl (o_ rfl rfl (a_ (q_ 0 J_ rfl rfl rfl) rfl (o_ rfl rfl (a_ (jh_ rfl rfl) rfl ?_)))))))))
    refine o_ rfl rfl (x_ (bK_ rfl rfl) rfl fun r2 hr2 => ?_)
    refine a_ (N_ rfl rfl) rfl (d_ (b_ rfl ?_))
    cases r2
    · skip
      replace hr2 := of_decide_eq_false hr2
      refine p_ rfl (A_ (b_ rfl (f_ (f_ (c_ (a_ (j_ bW_ rfl rfl rfl H_) rfl (a_ (q_ 0 J_ rfl rfl rfl) rfl (a_ (j_ bW_ rfl rfl rfl H_) rfl (a_ (q_ 0 J_ rfl rfl rfl) rfl ?_)))))))))
      refine x_ (bK_ rfl rfl) rfl fun r3 hr3 => ?_
      refine d_ (b_ rfl ?_)
      cases r3
      · skip
        replace hr3 := of_decide_eq_false hr3
        refine p_ rfl (A_ (b_ rfl (f_ (c_ (a_ (g_ rfl) rfl (d_ (b_ rfl (B_ ?_))))))))
        exact as_ Tryz.results206 () (aJ_ rfl (by unfold fy_; first | (rw [if_pos (by omega)]) | (rw [if_neg (by omega), if_pos (by omega)]) | (rw [if_neg (by omega), if_neg (by omega)]))) W_ (fun _ _ _ => trivial)
      · skip
        replace hr3 := of_decide_eq_true hr3
        refine n_ rfl (f_ (c_ (a_ (g_ rfl) rfl (d_ (b_ rfl (B_ ?_))))))
        exact as_ Tryz.results206 () (aJ_ rfl (by unfold fy_; first | (rw [if_pos (by omega)]) | (rw [if_neg (by omega), if_pos (by omega)]) | (rw [if_neg (by omega), if_neg (by omega)]))) W_ (fun _ _ _ => trivial)
    · skip
      replace hr2 := of_decide_eq_true hr2
      refine n_ rfl (f_ (c_ (a_ (g_ rfl) rfl (d_ (b_ rfl (B_ ?_))))))
      exact as_ Tryz.results206 () (aJ_ rfl (by unfold fy_; first | (rw [if_pos (by omega)]) | (rw [if_neg (by omega), if_pos (by omega)]) | (rw [if_neg (by omega), if_neg (by omega)]))) W_ (fun _ _ _ => trivial)
  · skip
    replace hr1 := of_decide_eq_true hr1
    refine t_ rfl rfl rfl rfl (t_ rfl rfl rfl rfl (t_ rfl rfl rfl rfl (t_ rfl rfl rfl rfl (t_ rfl rfl rfl rfl (t_ rfl rfl rfl rfl (a_ (R_ rfl rfl) rfl (d_ (b_ rfl (n_ rfl ?_)))))))))
    refine f_ (c_ (a_ (g_ rfl) rfl (d_ (b_ rfl (B_ ?_)))))
    exact as_ Tryz.results206 () (aJ_ rfl (by unfold fy_; first | (rw [if_pos (by omega)]) | (rw [if_neg (by omega), if_pos (by omega)]) | (rw [if_neg (by omega), if_neg (by omega)]))) W_ (fun _ _ _ => trivial)
theorem sb_ (e : Int) (i : Int × Int) : Fn0 Tryz.prog 205 #[.int .i64 e, ivV i] (.int .i64 (iy_ e i)) := by
  refine M_ Tryz.func205 rfl rfl Tryz.ntmps205 rfl fun v0 => ?_
  refine f_ (c_ (aF_ rfl rfl fun b1 => ?_))
  refine a_ (g_ rfl) rfl (d_ (b_ rfl (f_ (f_ (c_ (a_ (h_ rfl) rfl (x_ (bR_ rfl rfl) rfl fun r1 hr1 => ?_)))))))
  refine d_ (b_ rfl ?_)
  cases r1
  · skip
    replace hr1 := bc_ hr1
    refine p_ rfl (A_ (b_ rfl (f_ (c_ (a_ (L_ 0 sH_ fk_ rfl rfl rfl) rfl (Q_ (pB_ i) rfl W_ (fun _ _ _ => by exact trivial) rfl fun _ => ?_))))))
    refine a_ (g_ rfl) rfl (d_ (b_ rfl (B_ ?_)))
    exact as_ Tryz.results205 () (aJ_ rfl (by unfold iy_; first | (rw [if_pos (by assumption)]) | (rw [if_neg (by omega)]))) W_ (fun _ _ _ => trivial)
  · skip
    replace hr1 := bb_ hr1
    refine n_ rfl (f_ (c_ (a_ (h_ rfl) rfl (a_ (g_ rfl) rfl (d_ (b_ rfl (B_ ?_)))))))
    exact as_ Tryz.results205 () (aJ_ rfl (by unfold iy_; first | (rw [if_pos (by assumption)]) | (rw [if_neg (by omega)]))) W_ (fun _ _ _ => trivial)
theorem nS_ (l : List (Int × Int)) (ad : Option Addr) (cap : Nat) (hl : l.length ≤ 1000000) : Tri Tryz.prog 204 #[.slice ad (List.length l) cap, .int .i64 0, .func (.func 205) #[] #[]] [] [aS_ ad (List.flatMap ivC l)] (fun _ : Unit => .int .i64 (fD_ l)) (fun _ => []) (fun _ => []) := by
  refine M_ Tryz.func204 rfl rfl Tryz.ntmps204 rfl fun v0 => ?_
  refine f_ (c_ (a_ (g_ rfl) rfl (d_ (b_ rfl (f_ (f_ (c_ (a_ (h_ rfl) rfl (a_ (ah_ Tryz.runUnderlying223 rfl) rfl ?_)))))))))
  refine a_ (h_ rfl) rfl (d_ (b_ rfl (S_ ?_)))
  refine aV_ (ι := {y : Nat // y ≤ l.length}) (fun y => [(1, .int .i64 (fD_ (List.take y.1 l))), (2, .func (.func 205) #[] #[]), (9, .slice ad (List.length l) cap), (10, .int .i64 (List.length l : Int)), (11, .int .i64 (y.1 : Int))]) (fun y => ([])) (fun y => [aS_ ad (List.flatMap ivC l)]) (fun y => l.length - y.1) ⟨(0 : Nat), by simp⟩ ⟨rfl, rfl, rfl, rfl, rfl, trivial⟩ W_ (fun _ _ h => h) ?_
  rintro ⟨i, hi⟩
  dsimp only at hi ⊢
  refine f_ (c_ (x_ (az_ rfl rfl) rfl fun r1 hr1 => ?_))
  refine d_ (b_ rfl (f_ ?_))
  cases r1
  · skip
    replace hr1 := of_decide_eq_false hr1
    refine p_ rfl (aD_ rfl (b_ rfl (f_ (c_ (a_ (h_ rfl) rfl (a_ (g_ rfl) rfl (d_ (b_ rfl (B_ ?_)))))))))
    exact as_ Tryz.results204 () (aJ_ rfl (by rw [List.take_of_length_le (by omega)])) W_ (fun _ _ _ => trivial)
  · skip
    replace hr1 := of_decide_eq_true hr1
    have hlx1 : i < List.length l := by omega
    obtain ⟨x1, hx1⟩ : ∃ e0, l[i]? = some e0 := ⟨_, List.getElem?_eq_getElem hlx1⟩
    have hmx1 : x1 ∈ l := List.mem_of_getElem? hx1
    refine n_ rfl (A_ (b_ rfl (f_ (S_ (f_ (c_ (a_ (ak_ Tryz.runUnderlying223 fk_ rfl rfl (fun v _ h => aL_ (n := 2) ls_ (by decide) (by exact h.1) hx1) (by omega) (by first | omega | (simp; done))) rfl (a_ (aE_ (ad := ad) (us := ivC x1) sH_ fk_ rfl (fun v _ h => by exact h.1) (ls_ _) (an_ ls_ hx1)) rfl (al_ Tryz.zeroValue175 rfl fun b1 => ?_)))))))))
    refine Z_ 0 fk_ rfl rfl rfl rfl rfl rfl (d_ (b_ rfl (c_ (a_ (h_ rfl) rfl (a_ (h_ rfl) rfl (a_ (L_ 0 sH_ fk_ rfl rfl rfl) rfl (aH_ (sb_ (fD_ (List.take i l)) x1) rfl rfl W_ (fun _ _ _ => by exact trivial) rfl fun _ => ?_)))))))
    refine a_ (g_ rfl) rfl (d_ (b_ rfl (c_ (a_ (V_ rfl rfl rfl (aq_ (by omega) (by omega))) rfl (a_ (h_ rfl) rfl (d_ (r_ rfl ?_)))))))
    exact ao_ ⟨i + 1, hlx1⟩ (by dsimp only; omega) ⟨(aJ_ rfl (mX_ hx1).symm), rfl, rfl, rfl, rfl, trivial⟩ W_ (fun _ _ h => h)
theorem sd_ (l : List (Int × Int)) (ad : Option Addr) (cap : Nat) (hl : l.length ≤ 1000000) : Tri Tryz.prog 184 #[.slice ad (List.length l) cap] [] [aS_ ad (List.flatMap ivC l)] (fun _ : Unit => .int .i64 (fD_ l)) (fun _ => []) (fun _ => []) := by
  refine M_ Tryz.func184 rfl rfl Tryz.ntmps184 rfl fun v0 => ?_
  refine f_ (c_ (a_ (g_ rfl) rfl (d_ (b_ rfl (f_ (c_ (a_ (h_ rfl) rfl (Q_ (nS_ l ad cap hl) rfl W_ (fun v _ h => by exact ⟨h.1, trivial⟩) rfl fun _ => ?_))))))))
  refine a_ (g_ rfl) rfl (d_ (b_ rfl (B_ ?_)))
  exact as_ Tryz.results184 () rfl W_ (fun _ _ _ => trivial)
theorem pX_ (i j : Int × Int) : Fn0 Tryz.prog 143 #[ivV i, ivV j] (.bool (pA_ i j)) := by
  refine M_ Tryz.func143 rfl rfl Tryz.ntmps143 rfl fun v0 => ?_
  refine f_ (c_ (aF_ rfl rfl fun b1 => ?_))
  refine aF_ rfl rfl fun b2 => ?_
  refine a_ (g_ rfl) rfl (d_ (b_ rfl (f_ (c_ (a_ (L_ 1 sH_ fk_ rfl rfl rfl) rfl (a_ (L_ 0 sH_ fk_ rfl rfl rfl) rfl (aK_ Tryz.runUnderlying223 fk_ Tryz.zeroValue175 rfl rfl rfl rfl rfl rfl fun b3 => ?_)))))))
  refine dT_ (List.flatMap ivC [i, j]) i_ rfl ?_
  refine Q_ (sd_ [i, j] (some ⟨b3, 0, none⟩) 2 (by simp)) rfl W_ (fun v _ h => by exact ⟨h.1, trivial⟩) rfl fun _ => ?_
  refine x_ (aA_ rfl rfl) rfl fun r1 hr1 => ?_
  refine a_ (h_ rfl) rfl ?_
  cases r1
  · skip
    replace hr1 := ne_of_beq_false hr1
    refine t_ rfl rfl rfl rfl (t_ rfl rfl rfl rfl (t_ rfl rfl rfl rfl (t_ rfl rfl rfl rfl (t_ rfl rfl rfl rfl (a_ (N_ rfl rfl) rfl (a_ (h_ rfl) rfl (t_ rfl rfl rfl rfl (t_ rfl rfl rfl rfl (t_ rfl rfl rfl rfl ?_)))))))))
    refine t_ rfl rfl rfl rfl (t_ rfl rfl rfl rfl (a_ (N_ rfl rfl) rfl (a_ (g_ rfl) rfl (d_ (b_ rfl (B_ ?_))))))
    exact as_ Tryz.results143 () (E_ rfl (by unfold pA_; simp_all <;> omega)) W_ (fun _ _ _ => trivial)
  · skip
    replace hr1 := eq_of_beq hr1
    refine o_ rfl rfl (a_ (j_ bW_ rfl rfl rfl H_) rfl (o_ rfl rfl (a_ (q_ 0 J_ rfl rfl rfl) rfl (o_ rfl rfl (a_ (j_ bW_ rfl rfl rfl H_) rfl (o_ rfl rfl (a_ (q_ 1 J_ rfl rfl rfl) rfl (o_ rfl rfl (x_ (cJ_ rfl rfl) rfl fun r2 hr2 => ?_)))))))))
    refine a_ (R_ rfl rfl) rfl (a_ (h_ rfl) rfl ?_)
    cases r2
    · skip
      replace hr2 := of_decide_eq_false hr2
      refine t_ rfl rfl rfl rfl (t_ rfl rfl rfl rfl (t_ rfl rfl rfl rfl (t_ rfl rfl rfl rfl (t_ rfl rfl rfl rfl (a_ (N_ rfl rfl) rfl (a_ (g_ rfl) rfl (d_ (b_ rfl (B_ ?_)))))))))
      exact as_ Tryz.results143 () (E_ rfl (by unfold pA_; simp_all <;> omega)) W_ (fun _ _ _ => trivial)
    · skip
      replace hr2 := of_decide_eq_true hr2
      refine o_ rfl rfl (a_ (j_ bW_ rfl rfl rfl H_) rfl (o_ rfl rfl (a_ (q_ 1 J_ rfl rfl rfl) rfl (o_ rfl rfl (a_ (j_ bW_ rfl rfl rfl H_) rfl (o_ rfl rfl (a_ (q_ 0 J_ rfl rfl rfl) rfl (o_ rfl rfl (x_ (cJ_ rfl rfl) rfl fun r3 hr3 => ?_)))))))))
      refine a_ (R_ rfl rfl) rfl (a_ (g_ rfl) rfl (d_ (b_ rfl (B_ ?_))))
      exact as_ Tryz.results143 () (E_ rfl (by unfold pA_; simp_all <;> omega)) W_ (fun _ _ _ => trivial)
theorem nv_ (a b c d : Int) (ha : -1099511627776 ≤ a ∧ a ≤ b ∧ b ≤ 1099511627776) (hb : -1099511627776 ≤ c ∧ c ≤ d ∧ d ≤ 1099511627776) : Fn0 Tryz.prog 143 #[ivV (a, b), ivV (c, d)] (.bool (decide (c ≤ a ∧ b ≤ d))) := by
  have := pX_ (a, b) (c, d)
  rw [sc_ ha hb] at this
  exact this
theorem hj_ {α : Type} {p : α → Bool} {l : List α} {i : Nat} {x : α} (h : l[i]? = some x) : List.filter p (List.take (i + 1) l) = List.filter p (List.take i l) ++ (if p x then [x] else []) := by
  rw [List.take_add_one, h, Option.toList_some, List.filter_append]
  congr 1
  simp [List.filter_cons]
theorem out_c (B : EngB) (E : Emt Tryz.prog 41) (A : EngA) (pm : List (Ky × Pc)) (x : Ix) (f : Fc) (nw fm : List Fc) (Hs : Hp) (hS : E.St nw fm Hs) (hpl : ∀ k, (lat pm k).length ≤ 1000000000) (hxl : ∀ k, (lat x.above k).length ≤ 1000000000 ∧ (lat x.under k).length ≤ 1000000000) (hyl : ∀ k, (lat x.frm k).length ≤ 1000000000 ∧ (lat x.into k).length ≤ 1000000000 ∧ (lat x.ranges k).length ≤ 1000000000 ∧ (lat x.firms k).length ≤ 1000000000) (hf : -1099511627776 ≤ f.lo ∧ f.lo ≤ f.hi ∧ f.hi ≤ 1099511627776) (hq : ∀ y ∈ lat pm (Ky.mk 9 (Fc.r f) []), -1099511627776 ≤ y.lo ∧ y.lo ≤ y.hi ∧ y.hi ≤ 1099511627776) : Tri Tryz.prog 111 #[zp_ B.g 0, Fc.val f] Hs [gF B E, pF B pm A, aF B x A, uF B x A, oF B x A, iF B x A, rF B x A, sF B x A, E.ef] (fun _ : {H' : Hp // E.St (emits E.stp (pt_ pm f) nw) fm H'} => .tuple #[]) (fun y => y.1) (fun _ => []) := by
 refine M_ Tryz.func111 rfl rfl Tryz.ntmps111 rfl fun v0 => ?_
 refine f_ (c_ (aF_ rfl rfl fun b1 => ?_))
 refine d_ (b_ rfl (f_ ?_))
 refine aN_ (by kernel_rfl) ?_
 refine ad_ 0 [0, 1, 2, 3, 4, 5, 6, 7, 8, 9] (by kernel_rfl) (fun _ a b => ⟨a, b⟩) (k_ rfl (h_ rfl) rfl (k_ rfl (af_ rfl) rfl (k_ rfl (j_ D_ rfl rfl rfl dq_) rfl (k_ rfl (aa_ ee_ rfl (fun v _ h => by exact h.1) rfl) rfl (k_ rfl (j_ u_ rfl rfl rfl s_) rfl (k_ rfl (q_ 0 w_ rfl rfl rfl) rfl (k_ rfl (ag_ ep_ rfl rfl) rfl (k_ rfl (ci_ (k := (Ky.mk 9 (Fc.r f) [])) (adr := A.p) gy_ cd_ cx_ rfl rfl (fun v _ h => by exact h.2.1)) rfl (k_ rfl (ah_ G_ rfl) rfl ?_)))))))))
 refine k_ rfl (h_ rfl) rfl (ac_ (ab_ (by kernel_rfl) (b_ rfl (S_ ?_))))
 refine aV_ (ι := {y : Nat × Hp // y.1 ≤ List.length (lat pm (Ky.mk 9 (Fc.r f) [])) ∧ E.St (emits E.stp (List.map (fun y => aG_ (Fc.a f) (Pc.c y)) (List.filter (fun y => decide (Pc.lo y ≤ Fc.lo f ∧ Fc.hi f ≤ Pc.hi y)) (List.take y.1 (lat pm (Ky.mk 9 (Fc.r f) []))))) nw) fm y.2}) (fun y => [(0, zp_ B.g 0), (3, zp_ b1 0), (13, .slice (Prod.fst (A.p (Ky.mk 9 (Fc.r f) []))) (List.length (lat pm (Ky.mk 9 (Fc.r f) []))) (Prod.snd (A.p (Ky.mk 9 (Fc.r f) [])))), (14, .int .i64 (List.length (lat pm (Ky.mk 9 (Fc.r f) [])) : Int)), (15, .int .i64 (y.1.1 : Int))]) (fun y => ((b1, .cells (Fc.cells f).toArray 41 (0, 0)) :: y.1.2)) (fun y => [gF B E, pF B pm A, aF B x A, uF B x A, oF B x A, iF B x A, rF B x A, sF B x A, E.ef]) (fun y => List.length (lat pm (Ky.mk 9 (Fc.r f) [])) - y.1.1) ⟨((0 : Nat), Hs), by simp, by exact hS⟩ ⟨rfl, rfl, rfl, rfl, rfl, trivial⟩ (l_ i_ ba_) (fun _ _ h => h) ?_
 rintro ⟨⟨i, Hs_i⟩, hi_i, hS_i⟩
 dsimp only at hi_i hS_i ⊢
 have hb_i := hpl (Ky.mk 9 (Fc.r f) [])
 refine f_ (c_ (x_ (az_ rfl rfl) rfl fun r1 hr1 => ?_))
 refine d_ (b_ rfl (f_ ?_))
 cases r1
 ·
  replace hr1 := of_decide_eq_false hr1
  refine p_ rfl (aD_ rfl (aO_ rfl ?_))
  exact cn_ Tryz.results111 ⟨Hs_i, by unfold pt_; rw [List.take_of_length_le (by omega)] at hS_i; exact hS_i⟩ rfl ai_ (fun _ _ _ => trivial)
 ·
  replace hr1 := of_decide_eq_true hr1
  have hlx1 : i < List.length (lat pm (Ky.mk 9 (Fc.r f) [])) := by omega
  obtain ⟨x1, hx1⟩ : ∃ e0, (lat pm (Ky.mk 9 (Fc.r f) []))[i]? = some e0 := ⟨_, List.getElem?_eq_getElem hlx1⟩
  have hmx1 : x1 ∈ (lat pm (Ky.mk 9 (Fc.r f) [])) := List.mem_of_getElem? hx1
  refine n_ rfl (A_ (b_ rfl (f_ (S_ (f_ (c_ (a_ (ak_ G_ U_ rfl rfl (fun v _ h => aL_ (n := 10) Pc.cells_len (by decide) (by exact (bI_ h.2.1 (Ky.mk 9 (Fc.r f) []))) hx1) (by omega) (by first | omega | (simp; done))) rfl (a_ (aE_ (ad := (Prod.fst (A.p (Ky.mk 9 (Fc.r f) [])))) (us := Pc.cells x1) bh_ U_ rfl (fun v _ h => by exact (bI_ h.2.1 (Ky.mk 9 (Fc.r f) []))) (Pc.cells_len _) (an_ Pc.cells_len hx1)) rfl (al_ ap_ rfl fun b2 => ?_)))))))))
  refine Z_ 0 U_ rfl rfl rfl rfl rfl rfl (d_ (b_ rfl (f_ (c_ (a_ (j_ u_ rfl rfl rfl H_) rfl (a_ (q_ 1 J_ rfl rfl rfl) rfl (a_ (j_ u_ rfl rfl rfl H_) rfl (a_ (q_ 1 J_ rfl rfl rfl) rfl (a_ (ag_ op_ rfl rfl) rfl ?_)))))))))
  refine a_ (j_ F_ rfl rfl rfl H_) rfl (a_ (q_ 0 J_ rfl rfl rfl) rfl (a_ (j_ F_ rfl rfl rfl H_) rfl (a_ (q_ 0 J_ rfl rfl rfl) rfl (a_ (ag_ op_ rfl rfl) rfl (ax_ (nv_ (Fc.lo f) (Fc.hi f) (Pc.lo x1) (Pc.hi x1) hf (hq x1 hmx1)) rfl W_ (fun _ _ _ => by exact trivial) rfl fun r2 hr2 => ?_)))))
  refine d_ (b_ rfl ?_)
  cases r2
  ·
   replace hr2 := of_decide_eq_false hr2
   refine p_ rfl (A_ (b_ rfl (c_ (a_ (V_ rfl rfl rfl (aq_ (by omega) (by omega))) rfl (a_ (h_ rfl) rfl (d_ (r_ rfl ?_)))))))
   exact ao_ ⟨(i + 1, Hs_i), hlx1, (by rw [hj_ hx1]; first | (rw [if_pos (decide_eq_true (by assumption)), List.map_append, aQ_]; exact hS_i) | (rw [if_neg (by rw [decide_eq_false (by assumption)]; decide), List.append_nil]; exact hS_i))⟩ (by dsimp only; omega) ⟨rfl, rfl, rfl, rfl, rfl, trivial⟩ (l_ (e_ i_) ai_) (fun _ _ h => h)
  ·
   replace hr2 := of_decide_eq_true hr2
   refine n_ rfl ?_
   refine aC_ ((b2, .cells (Pc.cells x1).toArray 47 (0, 0)) :: ((b1, .cells (Fc.cells f).toArray 41 (0, 0)) :: [])) (by kernel_rfl) ?_
   refine ad_ 2 [0, 1, 2, 3, 4, 5, 6, 7] (by kernel_rfl) (fun _ a b => ⟨Vw.sat.sub (a.perm (l_ i_ i_)), b⟩) (k_ rfl (h_ rfl) rfl (k_ rfl (af_ rfl) rfl (k_ rfl (j_ D_ rfl rfl rfl aU_) rfl (k_ rfl (aa_ bz_ rfl (fun v _ h => by exact h.1) rfl) rfl (k_ rfl (j_ u_ rfl rfl rfl s_) rfl (k_ rfl (q_ 1 w_ rfl rfl rfl) rfl (k_ rfl (j_ F_ rfl rfl rfl s_) rfl (k_ rfl (q_ 0 w_ rfl rfl rfl) rfl (ac_ ?_)))))))))
   refine O_ 8 rfl (by kernel_rfl) (Q_ (fs_ (Fc.a f) (Pc.c x1)) rfl W_ (fun _ _ _ => by exact trivial) rfl fun _ => ?_)
   refine d_ (r_ rfl (C_ (fun _ a b => ⟨Vw.sat.sub (a.perm (l_ i_ i_)), b⟩) (O_ 9 rfl (by kernel_rfl) (aH_ (first := []) (cap := E.caps) (E.emit (aG_ (Fc.a f) (Pc.c x1)) (emits E.stp (List.map (fun y => aG_ (Fc.a f) (Pc.c y)) (List.filter (fun y => decide (Pc.lo y ≤ Fc.lo f ∧ Fc.hi f ≤ Pc.hi y)) (List.take i (lat pm (Ky.mk 9 (Fc.r f) []))))) nw) fm Hs_i hS_i) rfl rfl (e_ ai_) (fun v _ h => by exact ⟨h.2.2.2.2.2.2.2.2.1, trivial⟩) rfl fun ⟨Hs1, hS1⟩ => ?_))))
   dsimp only
   refine d_ (r_ rfl (C_ (fun _ a b => ⟨Vw.sat.sub (a.perm (l_ (m_ i_) be_)), b⟩) (ab_ (by kernel_rfl) (b_ rfl (c_ (a_ (V_ rfl rfl rfl (aq_ (by omega) (by omega))) rfl (a_ (h_ rfl) rfl (d_ (r_ rfl ?_)))))))))
   exact ao_ ⟨(i + 1, Hs1), hlx1, (by rw [hj_ hx1]; first | (rw [if_pos (decide_eq_true (by assumption)), List.map_append, aQ_]; exact hS1) | (rw [if_neg (by rw [decide_eq_false (by assumption)]; decide), List.append_nil]; exact hS1))⟩ (by dsimp only; omega) ⟨rfl, rfl, rfl, rfl, rfl, trivial⟩ (l_ (m_ (e_ i_)) z_) (fun _ _ h => h)
theorem dU_ {f : Fc} {l : List Fc} {i : Nat} {x : Fc} (h : l[i]? = some x) : fu_ f (List.take (i + 1) l) = fu_ f (List.take i l) ++ (if (!cM_ f x && decide (dz_ f x ≠ f ∧ dz_ f x ≠ x)) = true then [dz_ f x] else []) := by
  unfold fu_
  rw [hj_ h, List.map_append]
  congr 1
  split <;> simp
theorem eM_ {α : Type} {p : α → Bool} {l : List α} {i : Nat} {x : α} (h : l[i]? = some x) : List.any (List.take (i + 1) l) p = (List.any (List.take i l) p || p x) := by
  rw [List.take_add_one, h, Option.toList_some, List.any_append]; simp
theorem meet_c (B : EngB) (E : Emt Tryz.prog 41) (A : EngA) (pm : List (Ky × Pc)) (x : Ix) (f : Fc) (nw fm : List Fc) (Hs : Hp) (hS : E.St nw fm Hs) (hpl : ∀ k, (lat pm k).length ≤ 1000000000) (hxl : ∀ k, (lat x.above k).length ≤ 1000000000 ∧ (lat x.under k).length ≤ 1000000000) (hyl : ∀ k, (lat x.frm k).length ≤ 1000000000 ∧ (lat x.into k).length ≤ 1000000000 ∧ (lat x.ranges k).length ≤ 1000000000 ∧ (lat x.firms k).length ≤ 1000000000) : Tri Tryz.prog 110 #[zp_ B.g 0, Fc.val f] Hs [gF B E, pF B pm A, aF B x A, uF B x A, oF B x A, iF B x A, rF B x A, sF B x A, E.ef] (fun _ : {H' : Hp // E.St (emits E.stp (fu_ f (em_ x f (decide (f ∈ fm))) ++ gx_ f (em_ x f (decide (f ∈ fm)))) nw) fm H'} => .tuple #[]) (fun y => y.1) (fun _ => []) := by
 refine M_ Tryz.func110 rfl rfl Tryz.ntmps110 rfl fun v0 => ?_
 refine f_ (c_ (aF_ rfl rfl fun b1 => ?_))
 refine d_ (b_ rfl (f_ (c_ (a_ (j_ u_ rfl rfl rfl s_) rfl (a_ (q_ 0 w_ rfl rfl rfl) rfl (a_ (j_ u_ rfl rfl rfl s_) rfl (a_ (q_ 0 w_ rfl rfl rfl) rfl (a_ (ag_ eU_ rfl rfl) rfl (al_ cC_ rfl fun b2 => ?_)))))))))
 refine Z_ 0 bl_ rfl rfl rfl rfl rfl rfl (d_ (b_ rfl (f_ ?_)))
 refine aN_ (by kernel_rfl) ?_
 refine ad_ 0 [0, 1, 2, 3, 4, 5, 6] (by kernel_rfl) (fun _ a b => ⟨a, b⟩) (k_ rfl (h_ rfl) rfl (k_ rfl (af_ rfl) rfl (k_ rfl (j_ D_ rfl rfl rfl sE_) rfl (k_ rfl (aa_ Tryz.isAgg92 rfl (fun v _ h => by exact h.1) rfl) rfl (k_ rfl (L_ 0 dr_ bl_ rfl rfl rfl) rfl (k_ rfl (ci_ (k := ((Fc.a f), (Fc.r f))) (adr := A.s) cR_ qn_ lY_ rfl rfl (fun v _ h => by exact h.2.2.2.2.2.2.2.1)) rfl (k_ rfl (g_ rfl) rfl (ac_ (ab_ (by kernel_rfl) ?_)))))))))
 refine b_ rfl (f_ (f_ ?_))
 refine aN_ (by kernel_rfl) ?_
 refine ad_ 0 [0, 1, 2, 3, 4, 5] (by kernel_rfl) (fun _ a b => ⟨a, b⟩) (k_ rfl (h_ rfl) rfl (k_ rfl (af_ rfl) rfl (k_ rfl (j_ D_ rfl rfl rfl bT_) rfl (k_ rfl (aa_ ck_ rfl (fun v _ h => by exact h.1) rfl) rfl (k_ rfl (L_ 1 au_ X_ rfl rfl rfl) rfl ?_)))))
 refine ds_ rfl (ma_ (f := f) hS gO_ aZ_ db_ rfl rfl (e_ ai_)) rfl fun r1 hr1 => ?_
 refine ac_ (ab_ (by kernel_rfl) (b_ rfl ?_))
 cases r1
 ·
  replace hr1 := of_decide_eq_false hr1
  refine p_ rfl (A_ (b_ rfl (f_ (c_ (a_ (g_ rfl) rfl (d_ (b_ rfl (f_ (f_ ?_)))))))))
  refine c_ (a_ (h_ rfl) rfl (a_ (ah_ aj_ rfl) rfl (a_ (h_ rfl) rfl (d_ (b_ rfl (S_ ?_))))))
  refine aV_ (ι := {y : Nat × Hp × Bool // y.1 ≤ List.length (lat x.firms ((Fc.a f), (Fc.r f))) ∧ E.St (emits E.stp (fu_ f (List.take y.1 (lat x.firms ((Fc.a f), (Fc.r f))))) nw) fm y.2.1 ∧ y.2.2 = List.any (List.take y.1 (lat x.firms ((Fc.a f), (Fc.r f)))) (cM_ f)}) (fun y => [(0, zp_ B.g 0), (3, zp_ b1 0), (6, .bool y.1.2.2), (35, .slice (Prod.fst (A.s ((Fc.a f), (Fc.r f)))) (List.length (lat x.firms ((Fc.a f), (Fc.r f)))) (Prod.snd (A.s ((Fc.a f), (Fc.r f))))), (36, .int .i64 (List.length (lat x.firms ((Fc.a f), (Fc.r f))) : Int)), (37, .int .i64 (y.1.1 : Int))]) (fun y => ((b1, .cells (Fc.cells f).toArray 41 (0, 0)) :: y.1.2.1)) (fun y => [gF B E, pF B pm A, aF B x A, uF B x A, oF B x A, iF B x A, rF B x A, sF B x A, E.ef]) (fun y => List.length (lat x.firms ((Fc.a f), (Fc.r f))) - y.1.1) ⟨((0 : Nat), Hs, false), by simp, by exact hS, by simp⟩ ⟨rfl, rfl, rfl, rfl, rfl, rfl, trivial⟩ (l_ (e_ i_) ai_) (fun _ _ h => h) ?_
  rintro ⟨⟨i, Hs_i, e⟩, hi_i, hS_i, he⟩
  dsimp only at hi_i hS_i he ⊢
  have hb_i := (hyl ((Fc.a f), (Fc.r f))).2.2.2
  refine f_ (c_ (x_ (az_ rfl rfl) rfl fun r2 hr2 => ?_))
  refine d_ (b_ rfl (f_ ?_))
  cases r2
  ·
   replace hr2 := of_decide_eq_false hr2
   refine p_ rfl (aD_ rfl (b_ rfl (f_ (c_ (a_ (h_ rfl) rfl (d_ (b_ rfl ?_)))))))
   cases e
   ·
    refine p_ rfl (A_ (aO_ rfl ?_))
    exact cn_ Tryz.results110 ⟨Hs_i, by have hL : (em_ x f (decide (f ∈ fm))) = (lat x.firms ((Fc.a f), (Fc.r f))) := (by unfold em_; rw [decide_eq_false (by assumption)] <;> rfl); rw [hL, aQ_]; have e9 : List.take i (lat x.firms ((Fc.a f), (Fc.r f))) = (lat x.firms ((Fc.a f), (Fc.r f))) := List.take_of_length_le (by omega); rw [e9] at he hS_i; unfold gx_; rw [if_neg (by rw [← he]; decide)]; exact hS_i⟩ rfl ai_ (fun _ _ _ => trivial)
   ·
    refine n_ rfl ?_
    refine aC_ ((b1, .cells (Fc.cells f).toArray 41 (0, 0)) :: []) (by kernel_rfl) ?_
    refine ad_ 2 [0, 1, 2, 3, 4, 5] (by kernel_rfl) (fun _ a b => ⟨Vw.sat.sub (a.perm i_), b⟩) (k_ rfl (h_ rfl) rfl (k_ rfl (af_ rfl) rfl (k_ rfl (j_ D_ rfl rfl rfl aU_) rfl (k_ rfl (aa_ bz_ rfl (fun v _ h => by exact h.1) rfl) rfl (k_ rfl (j_ u_ rfl rfl rfl s_) rfl (k_ rfl (q_ 0 w_ rfl rfl rfl) rfl (ac_ (O_ 6 rfl (by kernel_rfl) (Q_ (fs_ (Fc.a f) [33]) rfl W_ (fun _ _ _ => by exact trivial) rfl fun _ => ?_)))))))))
    refine d_ (r_ rfl (C_ (fun _ a b => ⟨Vw.sat.sub (a.perm i_), b⟩) (O_ 7 rfl (by kernel_rfl) (aH_ (first := []) (cap := E.caps) (E.emit (aG_ (Fc.a f) [33]) (emits E.stp (fu_ f (List.take i (lat x.firms ((Fc.a f), (Fc.r f))))) nw) fm Hs_i hS_i) rfl rfl ai_ (fun v _ h => by exact ⟨h.2.2.2.2.2.2.2.2.1, trivial⟩) rfl fun ⟨Hs1, hS1⟩ => ?_))))
    dsimp only
    refine d_ (r_ rfl (C_ (fun _ a b => ⟨Vw.sat.sub (a.perm be_), b⟩) (ab_ (by kernel_rfl) (aO_ rfl ?_))))
    exact cn_ Tryz.results110 ⟨Hs1, by have hL : (em_ x f (decide (f ∈ fm))) = (lat x.firms ((Fc.a f), (Fc.r f))) := (by unfold em_; rw [decide_eq_false (by assumption)] <;> rfl); rw [hL, aQ_]; have e9 : List.take i (lat x.firms ((Fc.a f), (Fc.r f))) = (lat x.firms ((Fc.a f), (Fc.r f))) := List.take_of_length_le (by omega); rw [e9] at he hS1; unfold gx_; rw [if_pos he.symm]; exact hS1⟩ rfl z_ (fun _ _ _ => trivial)
  ·
   replace hr2 := of_decide_eq_true hr2
   have hlx1 : i < List.length (lat x.firms ((Fc.a f), (Fc.r f))) := by omega
   obtain ⟨x1, hx1⟩ : ∃ e0, (lat x.firms ((Fc.a f), (Fc.r f)))[i]? = some e0 := ⟨_, List.getElem?_eq_getElem hlx1⟩
   have hmx1 : x1 ∈ (lat x.firms ((Fc.a f), (Fc.r f))) := List.mem_of_getElem? hx1
   refine n_ rfl (A_ (b_ rfl (f_ (S_ (f_ (c_ (a_ (ak_ aj_ X_ rfl rfl (fun v _ h => aL_ (n := 6) Fc.cells_len (by decide) (by exact (bI_ h.2.2.2.2.2.2.2.1 ((Fc.a f), (Fc.r f)))) hx1) (by omega) (by first | omega | (simp; done))) rfl (a_ (aE_ (ad := (Prod.fst (A.s ((Fc.a f), (Fc.r f))))) (us := Fc.cells x1) au_ X_ rfl (fun v _ h => by exact (bI_ h.2.2.2.2.2.2.2.1 ((Fc.a f), (Fc.r f)))) (Fc.cells_len _) (an_ Fc.cells_len hx1)) rfl (al_ bt_ rfl fun b3 => ?_)))))))))
   refine Z_ 0 X_ rfl rfl rfl rfl rfl rfl (d_ (b_ rfl (f_ ?_)))
   refine aN_ (by kernel_rfl) ?_
   refine ad_ 0 [0, 1, 2, 3, 4, 5, 6, 7, 8, 9, 10, 11] (by kernel_rfl) (fun _ a b => ⟨a, b⟩) (k_ rfl (j_ u_ rfl rfl rfl H_) rfl (k_ rfl (q_ 1 J_ rfl rfl rfl) rfl (k_ rfl (j_ u_ rfl rfl rfl H_) rfl (k_ rfl (q_ 0 J_ rfl rfl rfl) rfl (k_ rfl (jh_ rfl rfl) rfl (k_ rfl (j_ u_ rfl rfl rfl H_) rfl (k_ rfl (q_ 1 J_ rfl rfl rfl) rfl (k_ rfl (j_ u_ rfl rfl rfl H_) rfl (k_ rfl (q_ 0 J_ rfl rfl rfl) rfl ?_)))))))))
   refine k_ rfl (hH_ rfl rfl) rfl (k_ rfl (g_ rfl) rfl (k_ rfl (g_ rfl) rfl (ac_ (ab_ (by kernel_rfl) (b_ rfl (f_ (c_ (a_ (h_ rfl) rfl (a_ (h_ rfl) rfl ?_)))))))))
   refine x_ (bK_ rfl rfl) rfl fun r3 hr3 => ?_
   refine d_ (b_ rfl ?_)
   cases r3
   ·
    replace hr3 := of_decide_eq_false hr3
    refine p_ rfl (f_ (c_ (a_ (j_ u_ rfl rfl rfl s_) rfl (a_ (q_ 1 w_ rfl rfl rfl) rfl (a_ (j_ u_ rfl rfl rfl s_) rfl (a_ (q_ 1 w_ rfl rfl rfl) rfl (a_ (h_ rfl) rfl (a_ (h_ rfl) rfl (Q_ (ny_ (Fc.a f) (Fc.r f) (max (Fc.lo f) (Fc.lo x1)) (min (Fc.hi f) (Fc.hi x1))) rfl W_ (fun _ _ _ => by exact trivial) rfl fun _ => ?_)))))))))
    refine al_ bt_ rfl fun b4 => ?_
    refine Z_ 0 X_ rfl rfl rfl rfl rfl rfl (d_ (b_ rfl (f_ (c_ (a_ (L_ 0 au_ X_ rfl rfl rfl) rfl (a_ (L_ 2 au_ X_ rfl rfl rfl) rfl (x_ (fE_ (p := (aM_ (Fc.a f) (Fc.r f) (max (Fc.lo f) (Fc.lo x1)) (min (Fc.hi f) (Fc.hi x1)))) (q := f) rfl rfl) rfl fun r4 hr4 => ?_)))))))
    refine a_ (h_ rfl) rfl ?_
    cases r4
    ·
     replace hr4 := of_decide_eq_false hr4
     refine t_ rfl rfl rfl rfl (t_ rfl rfl rfl rfl (t_ rfl rfl rfl rfl (a_ (N_ rfl rfl) rfl (d_ (b_ rfl (p_ rfl (A_ (b_ rfl (c_ ?_)))))))))
     refine a_ (V_ rfl rfl rfl (aq_ (by omega) (by omega))) rfl (a_ (h_ rfl) rfl (d_ (r_ rfl ?_)))
     exact ao_ ⟨(i + 1, Hs_i, e), hlx1, (by rw [dU_ hx1]; first | (rw [if_pos (by rw [Bool.and_eq_true]; exact ⟨by simp only [cM_]; rw [decide_eq_false (by omega)]; rfl, decide_eq_true ⟨by assumption, by assumption⟩⟩), aQ_]; exact hS_i) | (rw [if_neg (by rw [Bool.and_eq_true]; intro q; first | exact absurd (of_decide_eq_true q.2).1 (by assumption) | exact absurd (of_decide_eq_true q.2).2 (by assumption) | (have q1 := q.1; simp only [cM_] at q1; rw [decide_eq_true (by omega)] at q1; cases q1)), List.append_nil]; exact hS_i)), by rw [eM_ hx1, ← he]; simp only [cM_]; rw [decide_eq_false (by omega)]; simp⟩ (by dsimp only; omega) ⟨rfl, rfl, rfl, rfl, rfl, rfl, trivial⟩ (l_ (e_ (e_ i_)) (e_ ai_)) (fun _ _ h => h)
    ·
     replace hr4 := of_decide_eq_true hr4
     refine o_ rfl rfl (a_ (L_ 0 au_ X_ rfl rfl rfl) rfl (o_ rfl rfl (a_ (L_ 1 au_ X_ rfl rfl rfl) rfl (o_ rfl rfl (x_ (fE_ (p := (aM_ (Fc.a f) (Fc.r f) (max (Fc.lo f) (Fc.lo x1)) (min (Fc.hi f) (Fc.hi x1)))) (q := x1) rfl rfl) rfl fun r5 hr5 => ?_)))))
     refine a_ (R_ rfl rfl) rfl (d_ (b_ rfl ?_))
     cases r5
     ·
      replace hr5 := of_decide_eq_false hr5
      refine p_ rfl (A_ (b_ rfl (c_ (a_ (V_ rfl rfl rfl (aq_ (by omega) (by omega))) rfl (a_ (h_ rfl) rfl (d_ (r_ rfl ?_)))))))
      exact ao_ ⟨(i + 1, Hs_i, e), hlx1, (by rw [dU_ hx1]; first | (rw [if_pos (by rw [Bool.and_eq_true]; exact ⟨by simp only [cM_]; rw [decide_eq_false (by omega)]; rfl, decide_eq_true ⟨by assumption, by assumption⟩⟩), aQ_]; exact hS_i) | (rw [if_neg (by rw [Bool.and_eq_true]; intro q; first | exact absurd (of_decide_eq_true q.2).1 (by assumption) | exact absurd (of_decide_eq_true q.2).2 (by assumption) | (have q1 := q.1; simp only [cM_] at q1; rw [decide_eq_true (by omega)] at q1; cases q1)), List.append_nil]; exact hS_i)), by rw [eM_ hx1, ← he]; simp only [cM_]; rw [decide_eq_false (by omega)]; simp⟩ (by dsimp only; omega) ⟨rfl, rfl, rfl, rfl, rfl, rfl, trivial⟩ (l_ (e_ (e_ i_)) (e_ ai_)) (fun _ _ h => h)
     ·
      replace hr5 := of_decide_eq_true hr5
      refine n_ rfl ?_
      refine aC_ ((b4, .cells #[.int .i64 (Fc.kind (aM_ (Fc.a f) (Fc.r f) (max (Fc.lo f) (Fc.lo x1)) (min (Fc.hi f) (Fc.hi x1)))), str (Fc.a (aM_ (Fc.a f) (Fc.r f) (max (Fc.lo f) (Fc.lo x1)) (min (Fc.hi f) (Fc.hi x1)))), str (Fc.b (aM_ (Fc.a f) (Fc.r f) (max (Fc.lo f) (Fc.lo x1)) (min (Fc.hi f) (Fc.hi x1)))), str (Fc.r (aM_ (Fc.a f) (Fc.r f) (max (Fc.lo f) (Fc.lo x1)) (min (Fc.hi f) (Fc.hi x1)))), .int .i64 (Fc.lo (aM_ (Fc.a f) (Fc.r f) (max (Fc.lo f) (Fc.lo x1)) (min (Fc.hi f) (Fc.hi x1)))), .int .i64 (Fc.hi (aM_ (Fc.a f) (Fc.r f) (max (Fc.lo f) (Fc.lo x1)) (min (Fc.hi f) (Fc.hi x1))))] 41 (0, 0)) :: ((b3, .cells (Fc.cells x1).toArray 41 (0, 0)) :: ((b1, .cells (Fc.cells f).toArray 41 (0, 0)) :: []))) (by kernel_rfl) ?_
      refine ad_ 1 [0, 1, 2, 3, 4] (by kernel_rfl) (fun _ a b => ⟨Vw.sat.sub (a.perm (l_ i_ (l_ i_ i_))), b⟩) (k_ rfl (h_ rfl) rfl (k_ rfl (af_ rfl) rfl (k_ rfl (j_ D_ rfl rfl rfl aU_) rfl (k_ rfl (aa_ bz_ rfl (fun v _ h => by exact h.1) rfl) rfl (k_ rfl (L_ 0 au_ X_ rfl rfl rfl) rfl (ac_ (O_ 5 rfl (by kernel_rfl) (aH_ (first := []) (cap := E.caps) (E.emit (aM_ (Fc.a f) (Fc.r f) (max (Fc.lo f) (Fc.lo x1)) (min (Fc.hi f) (Fc.hi x1))) (emits E.stp (fu_ f (List.take i (lat x.firms ((Fc.a f), (Fc.r f))))) nw) fm Hs_i hS_i) rfl rfl (e_ (e_ ai_)) (fun v _ h => by exact ⟨h.2.2.2.2.2.2.2.2.1, trivial⟩) rfl fun ⟨Hs2, hS2⟩ => ?_))))))))
      dsimp only
      refine d_ (r_ rfl (C_ (fun _ a b => ⟨Vw.sat.sub (a.perm (l_ (m_ i_) (l_ (m_ i_) be_))), b⟩) (ab_ (by kernel_rfl) (b_ rfl (c_ (a_ (V_ rfl rfl rfl (aq_ (by omega) (by omega))) rfl (a_ (h_ rfl) rfl (d_ (r_ rfl ?_)))))))))
      exact ao_ ⟨(i + 1, Hs2, e), hlx1, (by rw [dU_ hx1]; first | (rw [if_pos (by rw [Bool.and_eq_true]; exact ⟨by simp only [cM_]; rw [decide_eq_false (by omega)]; rfl, decide_eq_true ⟨by assumption, by assumption⟩⟩), aQ_]; exact hS2) | (rw [if_neg (by rw [Bool.and_eq_true]; intro q; first | exact absurd (of_decide_eq_true q.2).1 (by assumption) | exact absurd (of_decide_eq_true q.2).2 (by assumption) | (have q1 := q.1; simp only [cM_] at q1; rw [decide_eq_true (by omega)] at q1; cases q1)), List.append_nil]; exact hS2)), by rw [eM_ hx1, ← he]; simp only [cM_]; rw [decide_eq_false (by omega)]; simp⟩ (by dsimp only; omega) ⟨rfl, rfl, rfl, rfl, rfl, rfl, trivial⟩ (l_ (m_ (e_ (e_ i_))) z_) (fun _ _ h => h)
   ·
    replace hr3 := of_decide_eq_true hr3
    refine n_ rfl (c_ (a_ (g_ rfl) rfl (d_ (b_ rfl (c_ (a_ (V_ rfl rfl rfl (aq_ (by omega) (by omega))) rfl (a_ (h_ rfl) rfl (d_ (r_ rfl ?_)))))))))
    exact ao_ ⟨(i + 1, Hs_i, true), hlx1, (by rw [dU_ hx1]; first | (rw [if_pos (by rw [Bool.and_eq_true]; exact ⟨by simp only [cM_]; rw [decide_eq_false (by omega)]; rfl, decide_eq_true ⟨by assumption, by assumption⟩⟩), aQ_]; exact hS_i) | (rw [if_neg (by rw [Bool.and_eq_true]; intro q; first | exact absurd (of_decide_eq_true q.2).1 (by assumption) | exact absurd (of_decide_eq_true q.2).2 (by assumption) | (have q1 := q.1; simp only [cM_] at q1; rw [decide_eq_true (by omega)] at q1; cases q1)), List.append_nil]; exact hS_i)), by rw [eM_ hx1, ← he]; simp only [cM_]; rw [decide_eq_true (by omega)]; simp⟩ (by dsimp only; omega) ⟨rfl, rfl, rfl, rfl, rfl, rfl, trivial⟩ (l_ (e_ i_) ai_) (fun _ _ h => h)
 ·
  replace hr1 := of_decide_eq_true hr1
  refine n_ rfl ?_
  refine aN_ (by kernel_rfl) ?_
  refine ad_ 0 [0, 1, 2, 3, 4, 5, 6] (by kernel_rfl) (fun _ a b => ⟨a, b⟩) (k_ rfl (h_ rfl) rfl (k_ rfl (af_ rfl) rfl (k_ rfl (j_ D_ rfl rfl rfl sE_) rfl (k_ rfl (aa_ Tryz.isAgg92 rfl (fun v _ h => by exact h.1) rfl) rfl (k_ rfl (L_ 0 dr_ bl_ rfl rfl rfl) rfl (k_ rfl (ci_ (k := ((Fc.a f), (Fc.r f))) (adr := A.r) cR_ qn_ lY_ rfl rfl (fun v _ h => by exact h.2.2.2.2.2.2.1)) rfl (k_ rfl (g_ rfl) rfl (ac_ (ab_ (by kernel_rfl) ?_)))))))))
  refine b_ rfl (f_ (c_ (a_ (g_ rfl) rfl (d_ (b_ rfl (f_ (f_ (c_ (a_ (h_ rfl) rfl ?_)))))))))
  refine a_ (ah_ aj_ rfl) rfl (a_ (h_ rfl) rfl (d_ (b_ rfl (S_ ?_))))
  refine aV_ (ι := {y : Nat × Hp × Bool // y.1 ≤ List.length (lat x.ranges ((Fc.a f), (Fc.r f))) ∧ E.St (emits E.stp (fu_ f (List.take y.1 (lat x.ranges ((Fc.a f), (Fc.r f))))) nw) fm y.2.1 ∧ y.2.2 = List.any (List.take y.1 (lat x.ranges ((Fc.a f), (Fc.r f)))) (cM_ f)}) (fun y => [(0, zp_ B.g 0), (3, zp_ b1 0), (6, .bool y.1.2.2), (35, .slice (Prod.fst (A.r ((Fc.a f), (Fc.r f)))) (List.length (lat x.ranges ((Fc.a f), (Fc.r f)))) (Prod.snd (A.r ((Fc.a f), (Fc.r f))))), (36, .int .i64 (List.length (lat x.ranges ((Fc.a f), (Fc.r f))) : Int)), (37, .int .i64 (y.1.1 : Int))]) (fun y => ((b1, .cells (Fc.cells f).toArray 41 (0, 0)) :: y.1.2.1)) (fun y => [gF B E, pF B pm A, aF B x A, uF B x A, oF B x A, iF B x A, rF B x A, sF B x A, E.ef]) (fun y => List.length (lat x.ranges ((Fc.a f), (Fc.r f))) - y.1.1) ⟨((0 : Nat), Hs, false), by simp, by exact hS, by simp⟩ ⟨rfl, rfl, rfl, rfl, rfl, rfl, trivial⟩ (l_ (e_ i_) ai_) (fun _ _ h => h) ?_
  rintro ⟨⟨i, Hs_i, e⟩, hi_i, hS_i, he⟩
  dsimp only at hi_i hS_i he ⊢
  have hb_i := (hyl ((Fc.a f), (Fc.r f))).2.2.1
  refine f_ (c_ (x_ (az_ rfl rfl) rfl fun r6 hr6 => ?_))
  refine d_ (b_ rfl (f_ ?_))
  cases r6
  ·
   replace hr6 := of_decide_eq_false hr6
   refine p_ rfl (aD_ rfl (b_ rfl (f_ (c_ (a_ (h_ rfl) rfl (d_ (b_ rfl ?_)))))))
   cases e
   ·
    refine p_ rfl (A_ (aO_ rfl ?_))
    exact cn_ Tryz.results110 ⟨Hs_i, by have hL : (em_ x f (decide (f ∈ fm))) = (lat x.ranges ((Fc.a f), (Fc.r f))) := (by unfold em_; rw [decide_eq_true (by assumption)] <;> rfl); rw [hL, aQ_]; have e9 : List.take i (lat x.ranges ((Fc.a f), (Fc.r f))) = (lat x.ranges ((Fc.a f), (Fc.r f))) := List.take_of_length_le (by omega); rw [e9] at he hS_i; unfold gx_; rw [if_neg (by rw [← he]; decide)]; exact hS_i⟩ rfl ai_ (fun _ _ _ => trivial)
   ·
    refine n_ rfl ?_
    refine aC_ ((b1, .cells (Fc.cells f).toArray 41 (0, 0)) :: []) (by kernel_rfl) ?_
    refine ad_ 2 [0, 1, 2, 3, 4, 5] (by kernel_rfl) (fun _ a b => ⟨Vw.sat.sub (a.perm i_), b⟩) (k_ rfl (h_ rfl) rfl (k_ rfl (af_ rfl) rfl (k_ rfl (j_ D_ rfl rfl rfl aU_) rfl (k_ rfl (aa_ bz_ rfl (fun v _ h => by exact h.1) rfl) rfl (k_ rfl (j_ u_ rfl rfl rfl s_) rfl (k_ rfl (q_ 0 w_ rfl rfl rfl) rfl (ac_ (O_ 6 rfl (by kernel_rfl) (Q_ (fs_ (Fc.a f) [33]) rfl W_ (fun _ _ _ => by exact trivial) rfl fun _ => ?_)))))))))
    refine d_ (r_ rfl (C_ (fun _ a b => ⟨Vw.sat.sub (a.perm i_), b⟩) (O_ 7 rfl (by kernel_rfl) (aH_ (first := []) (cap := E.caps) (E.emit (aG_ (Fc.a f) [33]) (emits E.stp (fu_ f (List.take i (lat x.ranges ((Fc.a f), (Fc.r f))))) nw) fm Hs_i hS_i) rfl rfl ai_ (fun v _ h => by exact ⟨h.2.2.2.2.2.2.2.2.1, trivial⟩) rfl fun ⟨Hs3, hS3⟩ => ?_))))
    dsimp only
    refine d_ (r_ rfl (C_ (fun _ a b => ⟨Vw.sat.sub (a.perm be_), b⟩) (ab_ (by kernel_rfl) (aO_ rfl ?_))))
    exact cn_ Tryz.results110 ⟨Hs3, by have hL : (em_ x f (decide (f ∈ fm))) = (lat x.ranges ((Fc.a f), (Fc.r f))) := (by unfold em_; rw [decide_eq_true (by assumption)] <;> rfl); rw [hL, aQ_]; have e9 : List.take i (lat x.ranges ((Fc.a f), (Fc.r f))) = (lat x.ranges ((Fc.a f), (Fc.r f))) := List.take_of_length_le (by omega); rw [e9] at he hS3; unfold gx_; rw [if_pos he.symm]; exact hS3⟩ rfl z_ (fun _ _ _ => trivial)
  ·
   replace hr6 := of_decide_eq_true hr6
   have hlx1 : i < List.length (lat x.ranges ((Fc.a f), (Fc.r f))) := by omega
   obtain ⟨x1, hx1⟩ : ∃ e0, (lat x.ranges ((Fc.a f), (Fc.r f)))[i]? = some e0 := ⟨_, List.getElem?_eq_getElem hlx1⟩
   have hmx1 : x1 ∈ (lat x.ranges ((Fc.a f), (Fc.r f))) := List.mem_of_getElem? hx1
   refine n_ rfl (A_ (b_ rfl (f_ (S_ (f_ (c_ (a_ (ak_ aj_ X_ rfl rfl (fun v _ h => aL_ (n := 6) Fc.cells_len (by decide) (by exact (bI_ h.2.2.2.2.2.2.1 ((Fc.a f), (Fc.r f)))) hx1) (by omega) (by first | omega | (simp; done))) rfl (a_ (aE_ (ad := (Prod.fst (A.r ((Fc.a f), (Fc.r f))))) (us := Fc.cells x1) au_ X_ rfl (fun v _ h => by exact (bI_ h.2.2.2.2.2.2.1 ((Fc.a f), (Fc.r f)))) (Fc.cells_len _) (an_ Fc.cells_len hx1)) rfl (al_ bt_ rfl fun b5 => ?_)))))))))
   refine Z_ 0 X_ rfl rfl rfl rfl rfl rfl (d_ (b_ rfl (f_ ?_)))
   refine aN_ (by kernel_rfl) ?_
   refine ad_ 0 [0, 1, 2, 3, 4, 5, 6, 7, 8, 9, 10, 11] (by kernel_rfl) (fun _ a b => ⟨a, b⟩) (k_ rfl (j_ u_ rfl rfl rfl H_) rfl (k_ rfl (q_ 1 J_ rfl rfl rfl) rfl (k_ rfl (j_ u_ rfl rfl rfl H_) rfl (k_ rfl (q_ 0 J_ rfl rfl rfl) rfl (k_ rfl (jh_ rfl rfl) rfl (k_ rfl (j_ u_ rfl rfl rfl H_) rfl (k_ rfl (q_ 1 J_ rfl rfl rfl) rfl (k_ rfl (j_ u_ rfl rfl rfl H_) rfl (k_ rfl (q_ 0 J_ rfl rfl rfl) rfl ?_)))))))))
   refine k_ rfl (hH_ rfl rfl) rfl (k_ rfl (g_ rfl) rfl (k_ rfl (g_ rfl) rfl (ac_ (ab_ (by kernel_rfl) (b_ rfl (f_ (c_ (a_ (h_ rfl) rfl (a_ (h_ rfl) rfl ?_)))))))))
   refine x_ (bK_ rfl rfl) rfl fun r7 hr7 => ?_
   refine d_ (b_ rfl ?_)
   cases r7
   ·
    replace hr7 := of_decide_eq_false hr7
    refine p_ rfl (f_ (c_ (a_ (j_ u_ rfl rfl rfl s_) rfl (a_ (q_ 1 w_ rfl rfl rfl) rfl (a_ (j_ u_ rfl rfl rfl s_) rfl (a_ (q_ 1 w_ rfl rfl rfl) rfl (a_ (h_ rfl) rfl (a_ (h_ rfl) rfl (Q_ (ny_ (Fc.a f) (Fc.r f) (max (Fc.lo f) (Fc.lo x1)) (min (Fc.hi f) (Fc.hi x1))) rfl W_ (fun _ _ _ => by exact trivial) rfl fun _ => ?_)))))))))
    refine al_ bt_ rfl fun b6 => ?_
    refine Z_ 0 X_ rfl rfl rfl rfl rfl rfl (d_ (b_ rfl (f_ (c_ (a_ (L_ 0 au_ X_ rfl rfl rfl) rfl (a_ (L_ 2 au_ X_ rfl rfl rfl) rfl (x_ (fE_ (p := (aM_ (Fc.a f) (Fc.r f) (max (Fc.lo f) (Fc.lo x1)) (min (Fc.hi f) (Fc.hi x1)))) (q := f) rfl rfl) rfl fun r8 hr8 => ?_)))))))
    refine a_ (h_ rfl) rfl ?_
    cases r8
    ·
     replace hr8 := of_decide_eq_false hr8
     refine t_ rfl rfl rfl rfl (t_ rfl rfl rfl rfl (t_ rfl rfl rfl rfl (a_ (N_ rfl rfl) rfl (d_ (b_ rfl (p_ rfl (A_ (b_ rfl (c_ ?_)))))))))
     refine a_ (V_ rfl rfl rfl (aq_ (by omega) (by omega))) rfl (a_ (h_ rfl) rfl (d_ (r_ rfl ?_)))
     exact ao_ ⟨(i + 1, Hs_i, e), hlx1, (by rw [dU_ hx1]; first | (rw [if_pos (by rw [Bool.and_eq_true]; exact ⟨by simp only [cM_]; rw [decide_eq_false (by omega)]; rfl, decide_eq_true ⟨by assumption, by assumption⟩⟩), aQ_]; exact hS_i) | (rw [if_neg (by rw [Bool.and_eq_true]; intro q; first | exact absurd (of_decide_eq_true q.2).1 (by assumption) | exact absurd (of_decide_eq_true q.2).2 (by assumption) | (have q1 := q.1; simp only [cM_] at q1; rw [decide_eq_true (by omega)] at q1; cases q1)), List.append_nil]; exact hS_i)), by rw [eM_ hx1, ← he]; simp only [cM_]; rw [decide_eq_false (by omega)]; simp⟩ (by dsimp only; omega) ⟨rfl, rfl, rfl, rfl, rfl, rfl, trivial⟩ (l_ (e_ (e_ i_)) (e_ ai_)) (fun _ _ h => h)
    ·
     replace hr8 := of_decide_eq_true hr8
     refine o_ rfl rfl (a_ (L_ 0 au_ X_ rfl rfl rfl) rfl (o_ rfl rfl (a_ (L_ 1 au_ X_ rfl rfl rfl) rfl (o_ rfl rfl (x_ (fE_ (p := (aM_ (Fc.a f) (Fc.r f) (max (Fc.lo f) (Fc.lo x1)) (min (Fc.hi f) (Fc.hi x1)))) (q := x1) rfl rfl) rfl fun r9 hr9 => ?_)))))
     refine a_ (R_ rfl rfl) rfl (d_ (b_ rfl ?_))
     cases r9
     ·
      replace hr9 := of_decide_eq_false hr9
      refine p_ rfl (A_ (b_ rfl (c_ (a_ (V_ rfl rfl rfl (aq_ (by omega) (by omega))) rfl (a_ (h_ rfl) rfl (d_ (r_ rfl ?_)))))))
      exact ao_ ⟨(i + 1, Hs_i, e), hlx1, (by rw [dU_ hx1]; first | (rw [if_pos (by rw [Bool.and_eq_true]; exact ⟨by simp only [cM_]; rw [decide_eq_false (by omega)]; rfl, decide_eq_true ⟨by assumption, by assumption⟩⟩), aQ_]; exact hS_i) | (rw [if_neg (by rw [Bool.and_eq_true]; intro q; first | exact absurd (of_decide_eq_true q.2).1 (by assumption) | exact absurd (of_decide_eq_true q.2).2 (by assumption) | (have q1 := q.1; simp only [cM_] at q1; rw [decide_eq_true (by omega)] at q1; cases q1)), List.append_nil]; exact hS_i)), by rw [eM_ hx1, ← he]; simp only [cM_]; rw [decide_eq_false (by omega)]; simp⟩ (by dsimp only; omega) ⟨rfl, rfl, rfl, rfl, rfl, rfl, trivial⟩ (l_ (e_ (e_ i_)) (e_ ai_)) (fun _ _ h => h)
     ·
      replace hr9 := of_decide_eq_true hr9
      refine n_ rfl ?_
      refine aC_ ((b6, .cells #[.int .i64 (Fc.kind (aM_ (Fc.a f) (Fc.r f) (max (Fc.lo f) (Fc.lo x1)) (min (Fc.hi f) (Fc.hi x1)))), str (Fc.a (aM_ (Fc.a f) (Fc.r f) (max (Fc.lo f) (Fc.lo x1)) (min (Fc.hi f) (Fc.hi x1)))), str (Fc.b (aM_ (Fc.a f) (Fc.r f) (max (Fc.lo f) (Fc.lo x1)) (min (Fc.hi f) (Fc.hi x1)))), str (Fc.r (aM_ (Fc.a f) (Fc.r f) (max (Fc.lo f) (Fc.lo x1)) (min (Fc.hi f) (Fc.hi x1)))), .int .i64 (Fc.lo (aM_ (Fc.a f) (Fc.r f) (max (Fc.lo f) (Fc.lo x1)) (min (Fc.hi f) (Fc.hi x1)))), .int .i64 (Fc.hi (aM_ (Fc.a f) (Fc.r f) (max (Fc.lo f) (Fc.lo x1)) (min (Fc.hi f) (Fc.hi x1))))] 41 (0, 0)) :: ((b5, .cells (Fc.cells x1).toArray 41 (0, 0)) :: ((b1, .cells (Fc.cells f).toArray 41 (0, 0)) :: []))) (by kernel_rfl) ?_
      refine ad_ 1 [0, 1, 2, 3, 4] (by kernel_rfl) (fun _ a b => ⟨Vw.sat.sub (a.perm (l_ i_ (l_ i_ i_))), b⟩) (k_ rfl (h_ rfl) rfl (k_ rfl (af_ rfl) rfl (k_ rfl (j_ D_ rfl rfl rfl aU_) rfl (k_ rfl (aa_ bz_ rfl (fun v _ h => by exact h.1) rfl) rfl (k_ rfl (L_ 0 au_ X_ rfl rfl rfl) rfl (ac_ (O_ 5 rfl (by kernel_rfl) (aH_ (first := []) (cap := E.caps) (E.emit (aM_ (Fc.a f) (Fc.r f) (max (Fc.lo f) (Fc.lo x1)) (min (Fc.hi f) (Fc.hi x1))) (emits E.stp (fu_ f (List.take i (lat x.ranges ((Fc.a f), (Fc.r f))))) nw) fm Hs_i hS_i) rfl rfl (e_ (e_ ai_)) (fun v _ h => by exact ⟨h.2.2.2.2.2.2.2.2.1, trivial⟩) rfl fun ⟨Hs4, hS4⟩ => ?_))))))))
      dsimp only
      refine d_ (r_ rfl (C_ (fun _ a b => ⟨Vw.sat.sub (a.perm (l_ (m_ i_) (l_ (m_ i_) be_))), b⟩) (ab_ (by kernel_rfl) (b_ rfl (c_ (a_ (V_ rfl rfl rfl (aq_ (by omega) (by omega))) rfl (a_ (h_ rfl) rfl (d_ (r_ rfl ?_)))))))))
      exact ao_ ⟨(i + 1, Hs4, e), hlx1, (by rw [dU_ hx1]; first | (rw [if_pos (by rw [Bool.and_eq_true]; exact ⟨by simp only [cM_]; rw [decide_eq_false (by omega)]; rfl, decide_eq_true ⟨by assumption, by assumption⟩⟩), aQ_]; exact hS4) | (rw [if_neg (by rw [Bool.and_eq_true]; intro q; first | exact absurd (of_decide_eq_true q.2).1 (by assumption) | exact absurd (of_decide_eq_true q.2).2 (by assumption) | (have q1 := q.1; simp only [cM_] at q1; rw [decide_eq_true (by omega)] at q1; cases q1)), List.append_nil]; exact hS4)), by rw [eM_ hx1, ← he]; simp only [cM_]; rw [decide_eq_false (by omega)]; simp⟩ (by dsimp only; omega) ⟨rfl, rfl, rfl, rfl, rfl, rfl, trivial⟩ (l_ (m_ (e_ (e_ i_))) z_) (fun _ _ h => h)
   ·
    replace hr7 := of_decide_eq_true hr7
    refine n_ rfl (c_ (a_ (g_ rfl) rfl (d_ (b_ rfl (c_ (a_ (V_ rfl rfl rfl (aq_ (by omega) (by omega))) rfl (a_ (h_ rfl) rfl (d_ (r_ rfl ?_)))))))))
    exact ao_ ⟨(i + 1, Hs_i, true), hlx1, (by rw [dU_ hx1]; first | (rw [if_pos (by rw [Bool.and_eq_true]; exact ⟨by simp only [cM_]; rw [decide_eq_false (by omega)]; rfl, decide_eq_true ⟨by assumption, by assumption⟩⟩), aQ_]; exact hS_i) | (rw [if_neg (by rw [Bool.and_eq_true]; intro q; first | exact absurd (of_decide_eq_true q.2).1 (by assumption) | exact absurd (of_decide_eq_true q.2).2 (by assumption) | (have q1 := q.1; simp only [cM_] at q1; rw [decide_eq_true (by omega)] at q1; cases q1)), List.append_nil]; exact hS_i)), by rw [eM_ hx1, ← he]; simp only [cM_]; rw [decide_eq_true (by omega)]; simp⟩ (by dsimp only; omega) ⟨rfl, rfl, rfl, rfl, rfl, rfl, trivial⟩ (l_ (e_ i_) ai_) (fun _ _ h => h)
theorem sr_ (B : EngB) (E : Emt Tryz.prog 41) (nw fm : List Fc) (Hs : Hp) (hS : E.St nw fm Hs) (al : List Str) (aad : Option Addr) (acap : Nat) (hal : al.length ≤ 1000000000) (hll : B.lps.length ≤ 1000000000) : Tri Tryz.prog 57 #[zp_ B.g 0, .slice aad (List.length al) acap] Hs [gF B E, aS_ B.lad (List.flatMap bg_ B.lps), aS_ aad (List.flatMap bg_ al), E.ef] (fun _ : {H' : Hp // E.St (emits E.stp (eF_ B.lps al) nw) fm H'} => .tuple #[]) (fun y => y.1) (fun _ => []) := by
 refine M_ Tryz.func57 rfl rfl Tryz.ntmps57 rfl fun v0 => ?_
 refine f_ (c_ (a_ (h_ rfl) rfl (a_ (ah_ P_ rfl) rfl (a_ (h_ rfl) rfl (d_ (b_ rfl (S_ ?_)))))))
 refine aV_ (ι := {y : Nat × Hp // y.1 ≤ List.length al ∧ E.St (emits E.stp (List.flatMap (fun a => aG_ a a :: aG_ a [42] :: List.map (fun r => aP_ a r a) B.lps) (List.take y.1 al)) nw) fm y.2}) (fun y => [(0, zp_ B.g 0), (8, .slice aad (List.length al) acap), (9, .int .i64 (List.length al : Int)), (10, .int .i64 (y.1.1 : Int))]) (fun y => (y.1.2)) (fun y => [gF B E, aS_ B.lad (List.flatMap bg_ B.lps), aS_ aad (List.flatMap bg_ al), E.ef]) (fun y => List.length al - y.1.1) ⟨((0 : Nat), Hs), by simp, by exact hS⟩ ⟨rfl, rfl, rfl, rfl, trivial⟩ ba_ (fun _ _ h => h) ?_
 rintro ⟨⟨i, Hs_i⟩, hi_i, hS_i⟩
 dsimp only at hi_i hS_i ⊢
 have hb_i := hal
 refine f_ (c_ (x_ (az_ rfl rfl) rfl fun r1 hr1 => ?_))
 refine d_ (b_ rfl (f_ ?_))
 cases r1
 ·
  replace hr1 := of_decide_eq_false hr1
  refine p_ rfl (aD_ rfl (aO_ rfl ?_))
  exact cn_ Tryz.results57 ⟨Hs_i, by unfold eF_; rw [List.take_of_length_le (by omega)] at hS_i; exact hS_i⟩ rfl ba_ (fun _ _ _ => trivial)
 ·
  replace hr1 := of_decide_eq_true hr1
  have hlx1 : i < List.length al := by omega
  obtain ⟨x1, hx1⟩ : ∃ e0, al[i]? = some e0 := ⟨_, List.getElem?_eq_getElem hlx1⟩
  have hmx1 : x1 ∈ al := List.mem_of_getElem? hx1
  refine n_ rfl (A_ (b_ rfl (f_ (S_ (f_ (c_ (a_ (ak_ P_ s_ rfl rfl (fun v _ h => aL_ (n := 1) aX_ (by decide) (by exact h.2.2.1) hx1) (by omega) (by first | omega | (simp; done))) rfl (a_ (bH_ (ad := aad) w_ rfl (fun v _ h => by exact h.2.2.1) (an_ aX_ hx1 0 _ rfl)) rfl (a_ (g_ rfl) rfl ?_)))))))))
  refine d_ (b_ rfl (f_ ?_))
  refine aC_ ([]) (by kernel_rfl) ?_
  refine ad_ 2 [0, 1, 2, 3, 4, 5] (by kernel_rfl) (fun _ a b => ⟨er_ a, b⟩) (k_ rfl (h_ rfl) rfl (k_ rfl (af_ rfl) rfl (k_ rfl (j_ D_ rfl rfl rfl aU_) rfl (k_ rfl (aa_ bz_ rfl (fun v _ h => by exact h.1) rfl) rfl (k_ rfl (h_ rfl) rfl (k_ rfl (h_ rfl) rfl (ac_ (O_ 6 rfl (by kernel_rfl) (Q_ (fs_ x1 x1) rfl W_ (fun _ _ _ => by exact trivial) rfl fun _ => ?_)))))))))
  refine at_ ox_ (d_ (r_ rfl (C_ (fun _ a b => ⟨er_ a, b⟩) (O_ 7 rfl (by kernel_rfl) (aH_ (first := []) (cap := E.caps) (E.emit (aG_ x1 x1) (emits E.stp (List.flatMap (fun a => aG_ a a :: aG_ a [42] :: List.map (fun r => aP_ a r a) B.lps) (List.take i al)) nw) fm Hs_i hS_i) rfl rfl ba_ (fun v _ h => by exact ⟨h.2.2.2.1, trivial⟩) rfl fun ⟨Hs1, hS1⟩ => ?_)))))
  dsimp only
  refine at_ hd_ (d_ (r_ rfl (C_ (fun _ a b => ⟨er_ a, b⟩) (ab_ (by kernel_rfl) (b_ rfl (f_ ?_))))))
  refine aC_ ([]) (by kernel_rfl) ?_
  refine ad_ 2 [0, 1, 2, 3, 4] (by kernel_rfl) (fun _ a b => ⟨er_ a, b⟩) (k_ rfl (h_ rfl) rfl (k_ rfl (af_ rfl) rfl (k_ rfl (j_ D_ rfl rfl rfl aU_) rfl (k_ rfl (aa_ bz_ rfl (fun v _ h => by exact h.1) rfl) rfl (k_ rfl (h_ rfl) rfl (ac_ (O_ 5 rfl (by kernel_rfl) (Q_ (fs_ x1 [42]) rfl W_ (fun _ _ _ => by exact trivial) rfl fun _ => ?_))))))))
  refine at_ ox_ (d_ (r_ rfl (C_ (fun _ a b => ⟨er_ a, b⟩) (O_ 6 rfl (by kernel_rfl) (aH_ (first := []) (cap := E.caps) (E.emit (aG_ x1 [42]) (E.stp (aG_ x1 x1) (emits E.stp (List.flatMap (fun a => aG_ a a :: aG_ a [42] :: List.map (fun r => aP_ a r a) B.lps) (List.take i al)) nw)) fm Hs1 hS1) rfl rfl ba_ (fun v _ h => by exact ⟨h.2.2.2.1, trivial⟩) rfl fun ⟨Hs2, hS2⟩ => ?_)))))
  dsimp only
  refine at_ hd_ (d_ (r_ rfl (C_ (fun _ a b => ⟨er_ a, b⟩) (ab_ (by kernel_rfl) (b_ rfl (f_ (c_ (a_ (h_ rfl) rfl (a_ (af_ rfl) rfl ?_)))))))))
  refine a_ (j_ D_ rfl rfl rfl bJ_) rfl (a_ (aa_ cI_ rfl (fun v _ h => by exact h.1) rfl) rfl (a_ (ah_ P_ rfl) rfl (a_ (h_ rfl) rfl (d_ (b_ rfl (S_ ?_))))))
  refine aV_ (ι := {y : Nat × Hp // y.1 ≤ List.length B.lps ∧ E.St (emits E.stp (List.map (fun r => aP_ x1 r x1) (List.take y.1 B.lps)) (E.stp (aG_ x1 [42]) (E.stp (aG_ x1 x1) (emits E.stp (List.flatMap (fun a => aG_ a a :: aG_ a [42] :: List.map (fun r => aP_ a r a) B.lps) (List.take i al)) nw)))) fm y.2}) (fun y => [(0, zp_ B.g 0), (8, .slice aad (List.length al) acap), (9, .int .i64 (List.length al : Int)), (10, .int .i64 (i : Int)), (5, str x1), (32, .slice B.lad (List.length B.lps) B.lcap), (33, .int .i64 (List.length B.lps : Int)), (34, .int .i64 (y.1.1 : Int))]) (fun y => (y.1.2)) (fun y => [gF B E, aS_ B.lad (List.flatMap bg_ B.lps), aS_ aad (List.flatMap bg_ al), E.ef]) (fun y => List.length B.lps - y.1.1) ⟨((0 : Nat), Hs2), by simp, by exact hS2⟩ ⟨rfl, rfl, rfl, rfl, rfl, rfl, rfl, rfl, trivial⟩ ba_ (fun _ _ h => h) ?_
  rintro ⟨⟨j, Hs_j⟩, hi_j, hS_j⟩
  dsimp only at hi_j hS_j ⊢
  have hb_j := hll
  refine f_ (c_ (x_ (az_ rfl rfl) rfl fun r2 hr2 => ?_))
  refine d_ (b_ rfl (f_ ?_))
  cases r2
  ·
   replace hr2 := of_decide_eq_false hr2
   refine p_ rfl (aD_ rfl (b_ rfl (c_ (a_ (V_ rfl rfl rfl (aq_ (by omega) (by omega))) rfl (a_ (h_ rfl) rfl (d_ (r_ rfl ?_)))))))
   exact ao_ ⟨(i + 1, Hs_j), hlx1, (by rw [fS_ hx1, aQ_]; have e9 : List.take j B.lps = B.lps := List.take_of_length_le (by omega); rw [e9] at hS_j; exact hS_j)⟩ (by dsimp only; omega) ⟨rfl, rfl, rfl, rfl, trivial⟩ ba_ (fun _ _ h => h)
  ·
   replace hr2 := of_decide_eq_true hr2
   have hlx2 : j < List.length B.lps := by omega
   obtain ⟨x2, hx2⟩ : ∃ e0, B.lps[j]? = some e0 := ⟨_, List.getElem?_eq_getElem hlx2⟩
   have hmx2 : x2 ∈ B.lps := List.mem_of_getElem? hx2
   refine n_ rfl (A_ (b_ rfl (f_ (S_ (f_ (c_ (a_ (ak_ P_ s_ rfl rfl (fun v _ h => aL_ (n := 1) aX_ (by decide) (by exact h.2.1) hx2) (by omega) (by first | omega | (simp; done))) rfl (a_ (bH_ (ad := B.lad) w_ rfl (fun v _ h => by exact h.2.1) (an_ aX_ hx2 0 _ rfl)) rfl (a_ (g_ rfl) rfl ?_)))))))))
   refine d_ (b_ rfl ?_)
   refine aC_ ([]) (by kernel_rfl) ?_
   refine ad_ 2 [0, 1, 2, 3, 4, 5, 6] (by kernel_rfl) (fun _ a b => ⟨er_ a, b⟩) (k_ rfl (h_ rfl) rfl (k_ rfl (af_ rfl) rfl (k_ rfl (j_ D_ rfl rfl rfl aU_) rfl (k_ rfl (aa_ bz_ rfl (fun v _ h => by exact h.1) rfl) rfl (k_ rfl (h_ rfl) rfl (k_ rfl (h_ rfl) rfl (k_ rfl (h_ rfl) rfl (ac_ (O_ 7 rfl (by kernel_rfl) ?_)))))))))
   refine Q_ (jR_ x1 x2 x1) rfl W_ (fun _ _ _ => by exact trivial) rfl fun _ => ?_
   refine at_ ox_ (d_ (r_ rfl (C_ (fun _ a b => ⟨er_ a, b⟩) (O_ 8 rfl (by kernel_rfl) (aH_ (first := []) (cap := E.caps) (E.emit (aP_ x1 x2 x1) (emits E.stp (List.map (fun r => aP_ x1 r x1) (List.take j B.lps)) (E.stp (aG_ x1 [42]) (E.stp (aG_ x1 x1) (emits E.stp (List.flatMap (fun a => aG_ a a :: aG_ a [42] :: List.map (fun r => aP_ a r a) B.lps) (List.take i al)) nw)))) fm Hs_j hS_j) rfl rfl ba_ (fun v _ h => by exact ⟨h.2.2.2.1, trivial⟩) rfl fun ⟨Hs3, hS3⟩ => ?_)))))
   dsimp only
   refine at_ hd_ (d_ (r_ rfl (C_ (fun _ a b => ⟨er_ a, b⟩) (ab_ (by kernel_rfl) (b_ rfl (c_ (a_ (V_ rfl rfl rfl (aq_ (by omega) (by omega))) rfl (a_ (h_ rfl) rfl (d_ ?_)))))))))
   refine r_ rfl ?_
   exact ao_ ⟨(j + 1, Hs3), hlx2, (by rw [ex_ hx2, aQ_]; exact hS3)⟩ (by dsimp only; omega) ⟨rfl, rfl, rfl, rfl, rfl, rfl, rfl, rfl, trivial⟩ ba_ (fun _ _ h => h)
end Go.Proofs.YtpdbbglpbngeiaaGreatDoor
namespace Go.Proofs.YtpdbbglpbngeiaaGreatDoor
open Go Go.Sx Go.Proofs
attribute [local irreducible] Code.wp wpList wpAnyH
open Go.Vs
theorem se_ (B : EngB) (E : Emt Tryz.prog 41) (x : Ix) (f : Fc) (nw fm : List Fc) (Hs : Hp) (hS : E.St nw fm Hs) (Ha Hu Ho Hi Hr Hm : Hp) (hI : IxO 9 41 B x ⟨Ha, Hu, Ho, Hi, Hr, Hm⟩) (hxl : ∀ k, (lat x.above k).length ≤ 1000000000 ∧ (lat x.under k).length ≤ 1000000000) (hyl : ∀ k, (lat x.frm k).length ≤ 1000000000 ∧ (lat x.into k).length ≤ 1000000000 ∧ (lat x.ranges k).length ≤ 1000000000 ∧ (lat x.firms k).length ≤ 1000000000) : Tri Tryz.prog 59 #[zp_ B.g 0, Fc.val f] (Ha ++ (Hu ++ (Ho ++ (Hi ++ (Hr ++ (Hm ++ Hs)))))) [gF B E] (fun _ : {y : IxH // IxO 9 41 B (x.add (decide (f ∈ fm)) f) y} => .tuple #[]) (fun y => y.1.a ++ (y.1.u ++ (y.1.o ++ (y.1.i ++ (y.1.r ++ (y.1.s ++ Hs)))))) (fun _ => []) := by
 refine M_ Tryz.func59 rfl rfl Tryz.ntmps59 rfl fun v0 => ?_
 obtain ⟨ha, hu, ho, hi, hr, hm⟩ := hI
 dsimp only at ha hu ho hi hr hm
 refine f_ (c_ (aF_ rfl rfl fun b1 => ?_))
 refine d_ (b_ rfl (f_ (c_ (a_ (j_ u_ rfl rfl rfl H_) rfl (a_ (q_ 0 J_ rfl rfl rfl) rfl (d_ (b_ rfl (S_ (f_ ?_)))))))))
 refine c_ (x_ (aA_ rfl rfl) rfl fun r1 hr1 => ?_)
 refine a_ (g_ rfl) rfl (d_ (b_ rfl ?_))
 cases r1
 ·
  replace hr1 := ne_of_beq_false hr1
  refine p_ rfl (f_ (c_ (x_ (aA_ rfl rfl) rfl fun r2 hr2 => ?_)))
  refine a_ (g_ rfl) rfl (d_ (b_ rfl ?_))
  cases r2
  ·
   replace hr2 := ne_of_beq_false hr2
   refine p_ rfl (f_ (c_ (x_ (aA_ rfl rfl) rfl fun r3 hr3 => ?_)))
   refine a_ (g_ rfl) rfl (d_ (b_ rfl ?_))
   cases r3
   ·
    replace hr3 := ne_of_beq_false hr3
    refine p_ rfl (A_ (aO_ rfl ?_))
    exact cn_ eu_ ⟨IxH.mk Ha Hu Ho Hi Hr Hm, by unfold Ix.add; rw [if_neg (by assumption), if_neg (by assumption), if_neg (by assumption)]; exact ⟨ha, hu, ho, hi, hr, hm⟩⟩ rfl (I_ (e_ z_) (I_ (e_ z_) (I_ (e_ z_) (I_ (e_ z_) (I_ (e_ z_) (I_ (e_ z_) ai_)))))) (fun _ _ _ => trivial)
   ·
    replace hr3 := eq_of_beq hr3
    refine n_ rfl (f_ (c_ (a_ (j_ u_ rfl rfl rfl s_) rfl (a_ (q_ 0 w_ rfl rfl rfl) rfl (a_ (j_ u_ rfl rfl rfl s_) rfl (a_ (q_ 0 w_ rfl rfl rfl) rfl (a_ (ag_ eU_ rfl rfl) rfl (al_ cC_ rfl fun b2 => ?_))))))))
    refine Z_ 0 bl_ rfl rfl rfl rfl rfl rfl (d_ (b_ rfl (f_ ?_)))
    refine aC_ ((b2, .cells #[str (Fc.a f), str (Fc.r f)] 145 (0, 0)) :: ((b1, .cells (Fc.cells f).toArray 41 (0, 0)) :: [])) (by kernel_rfl) ?_
    refine ad_ 6 [0, 1, 2, 3, 4, 5] (by kernel_rfl) (fun _ a b => ⟨Vw.sat.sub (a.perm (l_ i_ i_)), b⟩) (k_ rfl (h_ rfl) rfl (k_ rfl (af_ rfl) rfl (k_ rfl (j_ D_ rfl rfl rfl sE_) rfl (k_ rfl (aa_ Tryz.isAgg92 rfl (fun v _ h => by exact h.1) rfl) rfl (k_ rfl (L_ 0 dr_ bl_ rfl rfl rfl) rfl (k_ rfl (L_ 1 au_ X_ rfl rfl rfl) rfl (ac_ (O_ 6 rfl (by kernel_rfl) (aK_ aj_ X_ bt_ rfl rfl rfl rfl rfl rfl fun b3 => ?_)))))))))
    refine d_ (r_ rfl (C_ (fun _ a b => ⟨Vw.sat.sub (a.perm (l_ (e_ i_) (e_ i_))), b⟩) (O_ 7 rfl (by kernel_rfl) ?_)))
    have hbb1 := (hyl ((Fc.a f), (Fc.r f))).2.2.1
    refine dy_ (k := ((Fc.a f), (Fc.r f))) cR_ hr qn_ lY_ rfl rfl (e_ (e_ (e_ (m_ (m_ (m_ (m_ z_))))))) rfl fun es1 ce1 ie1 se1 ve1 Hk1 Hx1 ho1 hw1 => ?_
    refine d_ (r_ rfl (C_ (fun _ a b => ⟨Vw.sat.sub (a.perm (l_ (e_ (m_ (m_ (e_ i_)))) (e_ (m_ (m_ (e_ i_)))))), b⟩) (ad_ 2 [8, 10] (by kernel_rfl) (fun _ a b => ⟨Vw.sat.sub (a.perm (l_ (e_ (m_ (m_ (e_ i_)))) (e_ (m_ (m_ (e_ i_)))))), b⟩) (k_ rfl (ae_ rfl rfl) rfl (k_ rfl (ae_ rfl rfl) rfl (ac_ (O_ 9 rfl (by kernel_rfl) (bd_ (news := List.flatMap Fc.cells [f]) lI_ hw1 rfl rfl (e_ z_) rfl (dx_ (e_ (m_ (m_ i_)))) (fun u hu => bV_ Fc.cells_one hu) (by simp only [maxLen]; omega) (by omega) rfl fun sv1 Hr1 hr1 => ?_))))))))
    have hq1 : bk_ 41 6 sv1 (List.length ((lat x.ranges ((Fc.a f), (Fc.r f))) ++ [f])) (List.flatMap Fc.cells ((lat x.ranges ((Fc.a f), (Fc.r f))) ++ [f])) Hr1 := by rw [List.length_append, List.flatMap_append]; exact hr1
    refine d_ (r_ rfl (C_ (fun _ a b => ⟨Vw.sat.sub (a.perm (l_ (m_ (e_ (m_ (e_ i_)))) (m_ (e_ (m_ (e_ i_)))))), b⟩) (O_ 11 rfl (by kernel_rfl) (bZ_ (k := ((Fc.a f), (Fc.r f))) (dd := f) ho1 (by rw [cZ_]; exact hq1) rfl rfl rfl (cY_ (l_ (m_ i_) (I_ z_ z_))) fun H2 hM2 => ?_))))
    refine d_ (r_ rfl (C_ (fun _ a b => ⟨Vw.sat.sub (a.perm (l_ (m_ (e_ i_)) (m_ (e_ i_)))), b⟩) (ab_ (by kernel_rfl) (b_ rfl (at_ (bj_ (m_ i_) (bj_ (m_ i_) (dw_ (m_ i_)))) (f_ ?_))))))
    refine aN_ (by kernel_rfl) ?_
    refine ad_ 0 [0, 1, 2, 3, 4, 5] (by kernel_rfl) (fun _ a b => ⟨a, b⟩) (k_ rfl (h_ rfl) rfl (k_ rfl (af_ rfl) rfl (k_ rfl (j_ D_ rfl rfl rfl bT_) rfl (k_ rfl (aa_ ck_ rfl (fun v _ h => by exact h.1) rfl) rfl (k_ rfl (L_ 2 au_ X_ rfl rfl rfl) rfl ?_)))))
    refine ds_ rfl (ma_ (f := f) hS gO_ aZ_ db_ rfl rfl (e_ (e_ (e_ (m_ (m_ (m_ (m_ (m_ be_))))))))) rfl fun r4 hr4 => ?_
    refine ac_ (ab_ (by kernel_rfl) (b_ rfl ?_))
    cases r4
    ·
     replace hr4 := of_decide_eq_false hr4
     refine p_ rfl (A_ (aO_ rfl ?_))
     exact cn_ eu_ ⟨IxH.mk Ha Hu Ho Hi H2 Hm, by have e0 : x.add (decide (f ∈ fm)) f = { x with ranges := (x.ranges ++ [(((Fc.a f), (Fc.r f)), f)]) } := (by unfold Ix.add; rw [if_neg (by omega), if_neg (by omega), if_pos (by assumption), decide_eq_false (by assumption)]; rfl); rw [e0]; exact ⟨ha, hu, ho, hi, hM2, hm⟩⟩ rfl (I_ (e_ (e_ (e_ (m_ z_)))) (I_ (e_ (e_ (e_ (m_ z_)))) (I_ (e_ (e_ (e_ (m_ z_)))) (I_ (e_ (e_ (e_ (m_ z_)))) (I_ (e_ (e_ (e_ z_))) (I_ (e_ (e_ (e_ z_))) (e_ (e_ ai_)))))))) (fun _ _ _ => trivial)
    ·
     replace hr4 := of_decide_eq_true hr4
     refine n_ rfl ?_
     refine aC_ ((b3, .cells (Fc.cells f).toArray 41 (0, 0)) :: ((b2, .cells #[str (Fc.a f), str (Fc.r f)] 145 (0, 0)) :: ((b1, .cells (Fc.cells f).toArray 41 (0, 0)) :: []))) (by kernel_rfl) ?_
     refine ad_ 6 [0, 1, 2, 3, 4, 5] (by kernel_rfl) (fun _ a b => ⟨Vw.sat.sub (a.perm (l_ i_ (l_ i_ i_))), b⟩) (k_ rfl (h_ rfl) rfl (k_ rfl (af_ rfl) rfl (k_ rfl (j_ D_ rfl rfl rfl sE_) rfl (k_ rfl (aa_ Tryz.isAgg92 rfl (fun v _ h => by exact h.1) rfl) rfl (k_ rfl (L_ 1 dr_ bl_ rfl rfl rfl) rfl (k_ rfl (L_ 2 au_ X_ rfl rfl rfl) rfl (ac_ (O_ 6 rfl (by kernel_rfl) (aK_ aj_ X_ bt_ rfl rfl rfl rfl rfl rfl fun b4 => ?_)))))))))
     refine d_ (r_ rfl (C_ (fun _ a b => ⟨Vw.sat.sub (a.perm (l_ (e_ i_) (l_ (e_ i_) (e_ i_)))), b⟩) (O_ 7 rfl (by kernel_rfl) ?_)))
     have hbb3 := (hyl ((Fc.a f), (Fc.r f))).2.2.2
     refine dy_ (k := ((Fc.a f), (Fc.r f))) cR_ hm qn_ lY_ rfl rfl (e_ (e_ (e_ (e_ (m_ (m_ (m_ (m_ (m_ z_))))))))) rfl fun es3 ce3 ie3 se3 ve3 Hk3 Hx3 ho3 hw3 => ?_
     refine d_ (r_ rfl (C_ (fun _ a b => ⟨Vw.sat.sub (a.perm (l_ (e_ (m_ (m_ (e_ i_)))) (l_ (e_ (m_ (m_ (e_ i_)))) (e_ (m_ (m_ (e_ i_))))))), b⟩) (ad_ 2 [8, 10] (by kernel_rfl) (fun _ a b => ⟨Vw.sat.sub (a.perm (l_ (e_ (m_ (m_ (e_ i_)))) (l_ (e_ (m_ (m_ (e_ i_)))) (e_ (m_ (m_ (e_ i_))))))), b⟩) (k_ rfl (ae_ rfl rfl) rfl (k_ rfl (ae_ rfl rfl) rfl (ac_ (O_ 9 rfl (by kernel_rfl) (bd_ (news := List.flatMap Fc.cells [f]) lI_ hw3 rfl rfl (e_ z_) rfl (dx_ (e_ (m_ (m_ i_)))) (fun u hu => bV_ Fc.cells_one hu) (by simp only [maxLen]; omega) (by omega) rfl fun sv2 Hr2 hr2 => ?_))))))))
     have hq2 : bk_ 41 6 sv2 (List.length ((lat x.firms ((Fc.a f), (Fc.r f))) ++ [f])) (List.flatMap Fc.cells ((lat x.firms ((Fc.a f), (Fc.r f))) ++ [f])) Hr2 := by rw [List.length_append, List.flatMap_append]; exact hr2
     refine d_ (r_ rfl (C_ (fun _ a b => ⟨Vw.sat.sub (a.perm (l_ (m_ (e_ (m_ (e_ i_)))) (l_ (m_ (e_ (m_ (e_ i_)))) (m_ (e_ (m_ (e_ i_))))))), b⟩) (O_ 11 rfl (by kernel_rfl) (bZ_ (k := ((Fc.a f), (Fc.r f))) (dd := f) ho3 (by rw [cZ_]; exact hq2) rfl rfl rfl (cY_ (l_ (m_ i_) (I_ z_ z_))) fun H4 hM4 => ?_))))
     refine d_ (r_ rfl (C_ (fun _ a b => ⟨Vw.sat.sub (a.perm (l_ (m_ (e_ i_)) (l_ (m_ (e_ i_)) (m_ (e_ i_))))), b⟩) (ab_ (by kernel_rfl) (aO_ rfl ?_))))
     exact cn_ eu_ ⟨IxH.mk Ha Hu Ho Hi H2 H4, by have e0 : x.add (decide (f ∈ fm)) f = { x with ranges := (x.ranges ++ [(((Fc.a f), (Fc.r f)), f)]), firms := (x.firms ++ [(((Fc.a f), (Fc.r f)), f)]) } := (by unfold Ix.add; rw [if_neg (by omega), if_neg (by omega), if_pos (by assumption), decide_eq_true (by assumption)]; rfl); rw [e0]; exact ⟨ha, hu, ho, hi, hM2, hM4⟩⟩ rfl (I_ (m_ (e_ (e_ (e_ (e_ (m_ z_)))))) (I_ (m_ (e_ (e_ (e_ (e_ (m_ z_)))))) (I_ (m_ (e_ (e_ (e_ (e_ (m_ z_)))))) (I_ (m_ (e_ (e_ (e_ (e_ (m_ z_)))))) (I_ (m_ (e_ (e_ (e_ (e_ z_))))) (I_ z_ (e_ (e_ (e_ ai_))))))))) (fun _ _ _ => trivial)
  ·
   replace hr2 := eq_of_beq hr2
   refine n_ rfl ?_
   have hbb5 := (hxl (Fc.b f)).2
   refine oy_ hX_ (Fc.b f) hu (e_ (m_ z_)) fun es5 ce5 ve5 Hk5 Hx5 hw5 ho5 => ?_
   refine at_ (bj_ i_ (dw_ (m_ (m_ i_)))) (f_ ?_)
   refine aC_ ((b1, .cells (Fc.cells f).toArray 41 (0, 0)) :: []) (by kernel_rfl) ?_
   refine ad_ 4 [0, 1, 2, 3, 4, 5, 6, 7, 8, 9, 10, 11, 13, 14] (by kernel_rfl) (fun _ a b => ⟨Vw.sat.sub (a.perm (e_ i_)), b⟩) (k_ rfl (h_ rfl) rfl (k_ rfl (af_ rfl) rfl (k_ rfl (j_ D_ rfl rfl rfl hF_) rfl (k_ rfl (aa_ nU_ rfl (fun v _ h => by exact h.1) rfl) rfl (k_ rfl (j_ u_ rfl rfl rfl s_) rfl (k_ rfl (q_ 0 w_ rfl rfl rfl) rfl (k_ rfl (h_ rfl) rfl (k_ rfl (af_ rfl) rfl (k_ rfl (j_ D_ rfl rfl rfl hF_) rfl ?_)))))))))
   refine k_ rfl (aa_ nU_ rfl (fun v _ h => by exact h.1) rfl) rfl (k_ rfl (j_ u_ rfl rfl rfl s_) rfl (k_ rfl (q_ 0 w_ rfl rfl rfl) rfl (k_ rfl (j_ u_ rfl rfl rfl s_) rfl (k_ rfl (q_ 0 w_ rfl rfl rfl) rfl (ac_ ?_)))))
   refine eZ_ 12 15 rfl rfl (by kernel_rfl) ?_ ?_
   ·
    refine a_ (gX_ (k := (Fc.b f)) hX_ ho5 cr_ by_ rfl rfl 0 rfl) rfl (d_ (r_ rfl (C_ (fun _ a b => ⟨Vw.sat.sub (a.perm (e_ i_)), b⟩) (O_ 15 rfl (by kernel_rfl) (aK_ P_ s_ bq_ rfl rfl rfl rfl rfl rfl fun b5 => ?_)))))
    refine d_ (r_ rfl (C_ (fun _ a b => ⟨Vw.sat.sub (a.perm (e_ (e_ i_))), b⟩) (O_ 16 rfl (by kernel_rfl) (bd_ (news := List.flatMap bg_ [(Fc.a f)]) dt_ hw5 rfl rfl (e_ (e_ (e_ z_))) rfl (cQ_ 0 rfl) (fun u hu => bV_ cO_ hu) (by simp only [maxLen]; omega) (by omega) rfl fun sv3 Hr3 hr3 => ?_))))
    have hq3 : bk_ 9 1 sv3 (List.length ((lat x.under (Fc.b f)) ++ [(Fc.a f)])) (List.flatMap bg_ ((lat x.under (Fc.b f)) ++ [(Fc.a f)])) Hr3 := by rw [List.length_append, List.flatMap_append]; exact hr3
    refine d_ (r_ rfl (C_ (fun _ a b => ⟨Vw.sat.sub (a.perm (m_ (e_ (e_ i_)))), b⟩) (O_ 17 rfl (by kernel_rfl) (gj_ (k := (Fc.b f)) (dd := (Fc.a f)) hX_ ho5 (by rw [cZ_]; exact hq3) (.inr rfl) cr_ rfl rfl rfl (cY_ (l_ (m_ (e_ i_)) (I_ z_ (e_ (e_ z_))))) fun H6 hM6 => ?_))))
    refine d_ (r_ rfl (C_ (fun _ a b => ⟨Vw.sat.sub (a.perm (m_ (e_ i_))), b⟩) (ab_ (by kernel_rfl) (b_ rfl (at_ (bj_ (m_ i_) (dw_ (m_ i_))) (f_ ?_))))))
    refine aN_ (by kernel_rfl) ?_
    refine ad_ 4 [0, 1, 2, 3, 4, 5, 6, 7, 8, 9] (by kernel_rfl) (fun _ a b => ⟨a, b⟩) (k_ rfl (j_ u_ rfl rfl rfl s_) rfl (k_ rfl (q_ 1 w_ rfl rfl rfl) rfl (k_ rfl (j_ u_ rfl rfl rfl s_) rfl (k_ rfl (q_ 1 w_ rfl rfl rfl) rfl (k_ rfl (ag_ eU_ rfl rfl) rfl (k_ rfl (j_ u_ rfl rfl rfl s_) rfl (k_ rfl (q_ 1 w_ rfl rfl rfl) rfl (k_ rfl (j_ u_ rfl rfl rfl s_) rfl (k_ rfl (q_ 1 w_ rfl rfl rfl) rfl ?_)))))))))
    refine k_ rfl (ag_ eU_ rfl rfl) rfl (ac_ ?_)
    refine eZ_ 10 11 rfl rfl (by kernel_rfl) ?_ ?_
    ·
     refine al_ cC_ rfl fun b6 => ?_
     refine d_ (r_ rfl (C_ (fun _ a b => ⟨a.tail, b⟩) (O_ 11 rfl (by kernel_rfl) (al_ cC_ rfl fun b7 => ?_))))
     refine d_ (r_ rfl (C_ (fun _ a b => ⟨a.tail.tail, b⟩) (O_ 12 rfl (by kernel_rfl) (Z_ 1 bl_ rfl rfl rfl rfl rfl rfl (d_ (r_ rfl (C_ (fun _ a b => ⟨a.tail.tail, b⟩) (O_ 13 rfl (by kernel_rfl) (Z_ 0 bl_ rfl rfl rfl rfl rfl rfl ?_)))))))))
     refine d_ (r_ rfl (C_ (fun _ a b => ⟨a.tail.tail, b⟩) (ab_ (by kernel_rfl) (b_ rfl (f_ ?_)))))
     refine aC_ ((b7, .cells #[str (Fc.b f), str (Fc.r f)] 145 (0, 0)) :: ((b6, .cells #[str (Fc.a f), str (Fc.r f)] 145 (0, 0)) :: ((b5, .cells #[str (Fc.a f)] 9 (0, 0)) :: ((b1, .cells (Fc.cells f).toArray 41 (0, 0)) :: [])))) (by kernel_rfl) ?_
     refine ad_ 6 [0, 1, 2, 3, 4, 5, 6] (by kernel_rfl) (fun _ a b => ⟨Vw.sat.sub (a.perm (l_ i_ (l_ i_ (l_ i_ i_)))), b⟩) (k_ rfl (h_ rfl) rfl (k_ rfl (af_ rfl) rfl (k_ rfl (j_ D_ rfl rfl rfl dp_) rfl (k_ rfl (aa_ ed_ rfl (fun v _ h => by exact h.1) rfl) rfl (k_ rfl (L_ 1 dr_ bl_ rfl rfl rfl) rfl (k_ rfl (j_ u_ rfl rfl rfl s_) rfl (k_ rfl (q_ 3 w_ rfl rfl rfl) rfl (ac_ (O_ 7 rfl (by kernel_rfl) ?_)))))))))
     refine aK_ P_ s_ bq_ rfl rfl rfl rfl rfl rfl fun b8 => ?_
     refine d_ (r_ rfl (C_ (fun _ a b => ⟨Vw.sat.sub (a.perm (l_ (e_ i_) (l_ (e_ i_) (l_ (e_ i_) (e_ i_))))), b⟩) (O_ 8 rfl (by kernel_rfl) ?_)))
     have hbb7 := (hyl ((Fc.a f), (Fc.r f))).1
     refine dy_ (k := ((Fc.a f), (Fc.r f))) cR_ ho cc_ by_ rfl rfl (e_ (e_ (e_ (e_ (e_ (m_ (m_ z_))))))) rfl fun es7 ce7 ie7 se7 ve7 Hk7 Hx7 ho7 hw7 => ?_
     refine d_ (r_ rfl (C_ (fun _ a b => ⟨Vw.sat.sub (a.perm (l_ (e_ (m_ (m_ (e_ i_)))) (l_ (e_ (m_ (m_ (e_ i_)))) (l_ (e_ (m_ (m_ (e_ i_)))) (e_ (m_ (m_ (e_ i_)))))))), b⟩) (ad_ 2 [9, 11] (by kernel_rfl) (fun _ a b => ⟨Vw.sat.sub (a.perm (l_ (e_ (m_ (m_ (e_ i_)))) (l_ (e_ (m_ (m_ (e_ i_)))) (l_ (e_ (m_ (m_ (e_ i_)))) (e_ (m_ (m_ (e_ i_)))))))), b⟩) (k_ rfl (ae_ rfl rfl) rfl (k_ rfl (ae_ rfl rfl) rfl (ac_ (O_ 10 rfl (by kernel_rfl) (bd_ (news := List.flatMap bg_ [(Fc.b f)]) dt_ hw7 rfl rfl (e_ z_) rfl (dx_ (e_ (m_ (m_ i_)))) (fun u hu => bV_ cO_ hu) (by simp only [maxLen]; omega) (by omega) rfl fun sv4 Hr4 hr4 => ?_))))))))
     have hq4 : bk_ 9 1 sv4 (List.length ((lat x.frm ((Fc.a f), (Fc.r f))) ++ [(Fc.b f)])) (List.flatMap bg_ ((lat x.frm ((Fc.a f), (Fc.r f))) ++ [(Fc.b f)])) Hr4 := by rw [List.length_append, List.flatMap_append]; exact hr4
     refine d_ (r_ rfl (C_ (fun _ a b => ⟨Vw.sat.sub (a.perm (l_ (m_ (e_ (m_ (e_ i_)))) (l_ (m_ (e_ (m_ (e_ i_)))) (l_ (m_ (e_ (m_ (e_ i_)))) (m_ (e_ (m_ (e_ i_)))))))), b⟩) (O_ 12 rfl (by kernel_rfl) (bZ_ (k := ((Fc.a f), (Fc.r f))) (dd := (Fc.b f)) ho7 (by rw [cZ_]; exact hq4) rfl rfl rfl (cY_ (l_ (m_ i_) (I_ z_ z_))) fun H8 hM8 => ?_))))
     refine d_ (r_ rfl (C_ (fun _ a b => ⟨Vw.sat.sub (a.perm (l_ (m_ (e_ i_)) (l_ (m_ (e_ i_)) (l_ (m_ (e_ i_)) (m_ (e_ i_)))))), b⟩) (ab_ (by kernel_rfl) (b_ rfl (at_ (bj_ (m_ i_) (bj_ (m_ i_) (bj_ (m_ i_) (bj_ (m_ i_) (dw_ (m_ i_)))))) ?_)))))
     refine aC_ ((b8, .cells #[str (Fc.b f)] 9 (0, 0)) :: ((b7, .cells #[str (Fc.b f), str (Fc.r f)] 145 (0, 0)) :: ((b6, .cells #[str (Fc.a f), str (Fc.r f)] 145 (0, 0)) :: ((b5, .cells #[str (Fc.a f)] 9 (0, 0)) :: ((b1, .cells (Fc.cells f).toArray 41 (0, 0)) :: []))))) (by kernel_rfl) ?_
     refine ad_ 6 [0, 1, 2, 3, 4, 5, 6] (by kernel_rfl) (fun _ a b => ⟨Vw.sat.sub (a.perm (l_ i_ (l_ i_ (l_ i_ (l_ i_ i_))))), b⟩) (k_ rfl (h_ rfl) rfl (k_ rfl (af_ rfl) rfl (k_ rfl (j_ D_ rfl rfl rfl dp_) rfl (k_ rfl (aa_ ed_ rfl (fun v _ h => by exact h.1) rfl) rfl (k_ rfl (L_ 1 dr_ bl_ rfl rfl rfl) rfl (k_ rfl (j_ u_ rfl rfl rfl s_) rfl (k_ rfl (q_ 4 w_ rfl rfl rfl) rfl (ac_ (O_ 7 rfl (by kernel_rfl) ?_)))))))))
     refine aK_ P_ s_ bq_ rfl rfl rfl rfl rfl rfl fun b9 => ?_
     refine d_ (r_ rfl (C_ (fun _ a b => ⟨Vw.sat.sub (a.perm (l_ (e_ i_) (l_ (e_ i_) (l_ (e_ i_) (l_ (e_ i_) (e_ i_)))))), b⟩) (O_ 8 rfl (by kernel_rfl) ?_)))
     have hbb9 := (hyl ((Fc.b f), (Fc.r f))).2.1
     refine dy_ (k := ((Fc.b f), (Fc.r f))) cR_ hi cc_ by_ rfl rfl (e_ (e_ (e_ (e_ (e_ (e_ (m_ (m_ (m_ z_))))))))) rfl fun es9 ce9 ie9 se9 ve9 Hk9 Hx9 ho9 hw9 => ?_
     refine d_ (r_ rfl (C_ (fun _ a b => ⟨Vw.sat.sub (a.perm (l_ (e_ (m_ (m_ (e_ i_)))) (l_ (e_ (m_ (m_ (e_ i_)))) (l_ (e_ (m_ (m_ (e_ i_)))) (l_ (e_ (m_ (m_ (e_ i_)))) (e_ (m_ (m_ (e_ i_))))))))), b⟩) (ad_ 2 [9, 11] (by kernel_rfl) (fun _ a b => ⟨Vw.sat.sub (a.perm (l_ (e_ (m_ (m_ (e_ i_)))) (l_ (e_ (m_ (m_ (e_ i_)))) (l_ (e_ (m_ (m_ (e_ i_)))) (l_ (e_ (m_ (m_ (e_ i_)))) (e_ (m_ (m_ (e_ i_))))))))), b⟩) (k_ rfl (ae_ rfl rfl) rfl (k_ rfl (ae_ rfl rfl) rfl (ac_ (O_ 10 rfl (by kernel_rfl) (bd_ (news := List.flatMap bg_ [(Fc.a f)]) dt_ hw9 rfl rfl (e_ z_) rfl (dx_ (e_ (m_ (m_ i_)))) (fun u hu => bV_ cO_ hu) (by simp only [maxLen]; omega) (by omega) rfl fun sv5 Hr5 hr5 => ?_))))))))
     have hq5 : bk_ 9 1 sv5 (List.length ((lat x.into ((Fc.b f), (Fc.r f))) ++ [(Fc.a f)])) (List.flatMap bg_ ((lat x.into ((Fc.b f), (Fc.r f))) ++ [(Fc.a f)])) Hr5 := by rw [List.length_append, List.flatMap_append]; exact hr5
     refine d_ (r_ rfl (C_ (fun _ a b => ⟨Vw.sat.sub (a.perm (l_ (m_ (e_ (m_ (e_ i_)))) (l_ (m_ (e_ (m_ (e_ i_)))) (l_ (m_ (e_ (m_ (e_ i_)))) (l_ (m_ (e_ (m_ (e_ i_)))) (m_ (e_ (m_ (e_ i_))))))))), b⟩) (O_ 12 rfl (by kernel_rfl) (bZ_ (k := ((Fc.b f), (Fc.r f))) (dd := (Fc.a f)) ho9 (by rw [cZ_]; exact hq5) rfl rfl rfl (cY_ (l_ (m_ i_) (I_ z_ z_))) fun H10 hM10 => ?_))))
     refine d_ (r_ rfl (C_ (fun _ a b => ⟨Vw.sat.sub (a.perm (l_ (m_ (e_ i_)) (l_ (m_ (e_ i_)) (l_ (m_ (e_ i_)) (l_ (m_ (e_ i_)) (m_ (e_ i_))))))), b⟩) (ab_ (by kernel_rfl) (aO_ rfl ?_))))
     exact cn_ eu_ ⟨IxH.mk Ha H6 H8 H10 Hr Hm, by have e0 : x.add (decide (f ∈ fm)) f = { x with under := (x.under ++ [((Fc.b f), (Fc.a f))]), frm := (x.frm ++ [(((Fc.a f), (Fc.r f)), (Fc.b f))]), into := (x.into ++ [(((Fc.b f), (Fc.r f)), (Fc.a f))]) } := (by unfold Ix.add; rw [if_neg (by omega), if_pos (by assumption)]); rw [e0]; exact ⟨ha, hM6, hM8, hM10, hr, hm⟩⟩ rfl (I_ (m_ (e_ (e_ (e_ (e_ (e_ (e_ (m_ (m_ z_))))))))) (I_ (m_ (e_ (e_ (e_ (e_ (e_ (e_ (m_ z_)))))))) (I_ (m_ (e_ (e_ (e_ (e_ (e_ (e_ z_))))))) (I_ z_ (I_ (e_ (e_ (e_ (e_ (e_ (e_ z_)))))) (I_ (e_ (e_ (e_ (e_ (e_ (e_ z_)))))) (e_ (e_ (e_ (e_ (e_ ai_))))))))))) (fun _ _ _ => trivial)
    ·
     refine al_ cC_ rfl fun b10 => ?_
     refine d_ (r_ rfl (C_ (fun _ a b => ⟨a.tail, b⟩) (O_ 10 rfl (by kernel_rfl) (al_ cC_ rfl fun b11 => ?_))))
     refine d_ (r_ rfl (C_ (fun _ a b => ⟨a.tail.tail, b⟩) (O_ 12 rfl (by kernel_rfl) (Z_ 0 bl_ rfl rfl rfl rfl rfl rfl (d_ (r_ rfl (C_ (fun _ a b => ⟨a.tail.tail, b⟩) (O_ 13 rfl (by kernel_rfl) (Z_ 1 bl_ rfl rfl rfl rfl rfl rfl ?_)))))))))
     refine d_ (r_ rfl (C_ (fun _ a b => ⟨a.tail.tail, b⟩) (ab_ (by kernel_rfl) (b_ rfl (f_ ?_)))))
     refine aC_ ((b11, .cells #[str (Fc.a f), str (Fc.r f)] 145 (0, 0)) :: ((b10, .cells #[str (Fc.b f), str (Fc.r f)] 145 (0, 0)) :: ((b5, .cells #[str (Fc.a f)] 9 (0, 0)) :: ((b1, .cells (Fc.cells f).toArray 41 (0, 0)) :: [])))) (by kernel_rfl) ?_
     refine ad_ 6 [0, 1, 2, 3, 4, 5, 6] (by kernel_rfl) (fun _ a b => ⟨Vw.sat.sub (a.perm (l_ i_ (l_ i_ (l_ i_ i_)))), b⟩) (k_ rfl (h_ rfl) rfl (k_ rfl (af_ rfl) rfl (k_ rfl (j_ D_ rfl rfl rfl dp_) rfl (k_ rfl (aa_ ed_ rfl (fun v _ h => by exact h.1) rfl) rfl (k_ rfl (L_ 0 dr_ bl_ rfl rfl rfl) rfl (k_ rfl (j_ u_ rfl rfl rfl s_) rfl (k_ rfl (q_ 3 w_ rfl rfl rfl) rfl (ac_ (O_ 7 rfl (by kernel_rfl) ?_)))))))))
     refine aK_ P_ s_ bq_ rfl rfl rfl rfl rfl rfl fun b12 => ?_
     refine d_ (r_ rfl (C_ (fun _ a b => ⟨Vw.sat.sub (a.perm (l_ (e_ i_) (l_ (e_ i_) (l_ (e_ i_) (e_ i_))))), b⟩) (O_ 8 rfl (by kernel_rfl) ?_)))
     have hbb11 := (hyl ((Fc.a f), (Fc.r f))).1
     refine dy_ (k := ((Fc.a f), (Fc.r f))) cR_ ho cc_ by_ rfl rfl (e_ (e_ (e_ (e_ (e_ (m_ (m_ z_))))))) rfl fun es11 ce11 ie11 se11 ve11 Hk11 Hx11 ho11 hw11 => ?_
     refine d_ (r_ rfl (C_ (fun _ a b => ⟨Vw.sat.sub (a.perm (l_ (e_ (m_ (m_ (e_ i_)))) (l_ (e_ (m_ (m_ (e_ i_)))) (l_ (e_ (m_ (m_ (e_ i_)))) (e_ (m_ (m_ (e_ i_)))))))), b⟩) (ad_ 2 [9, 11] (by kernel_rfl) (fun _ a b => ⟨Vw.sat.sub (a.perm (l_ (e_ (m_ (m_ (e_ i_)))) (l_ (e_ (m_ (m_ (e_ i_)))) (l_ (e_ (m_ (m_ (e_ i_)))) (e_ (m_ (m_ (e_ i_)))))))), b⟩) (k_ rfl (ae_ rfl rfl) rfl (k_ rfl (ae_ rfl rfl) rfl (ac_ (O_ 10 rfl (by kernel_rfl) (bd_ (news := List.flatMap bg_ [(Fc.b f)]) dt_ hw11 rfl rfl (e_ z_) rfl (dx_ (e_ (m_ (m_ i_)))) (fun u hu => bV_ cO_ hu) (by simp only [maxLen]; omega) (by omega) rfl fun sv6 Hr6 hr6 => ?_))))))))
     have hq6 : bk_ 9 1 sv6 (List.length ((lat x.frm ((Fc.a f), (Fc.r f))) ++ [(Fc.b f)])) (List.flatMap bg_ ((lat x.frm ((Fc.a f), (Fc.r f))) ++ [(Fc.b f)])) Hr6 := by rw [List.length_append, List.flatMap_append]; exact hr6
     refine d_ (r_ rfl (C_ (fun _ a b => ⟨Vw.sat.sub (a.perm (l_ (m_ (e_ (m_ (e_ i_)))) (l_ (m_ (e_ (m_ (e_ i_)))) (l_ (m_ (e_ (m_ (e_ i_)))) (m_ (e_ (m_ (e_ i_)))))))), b⟩) (O_ 12 rfl (by kernel_rfl) (bZ_ (k := ((Fc.a f), (Fc.r f))) (dd := (Fc.b f)) ho11 (by rw [cZ_]; exact hq6) rfl rfl rfl (cY_ (l_ (m_ i_) (I_ z_ z_))) fun H12 hM12 => ?_))))
     refine d_ (r_ rfl (C_ (fun _ a b => ⟨Vw.sat.sub (a.perm (l_ (m_ (e_ i_)) (l_ (m_ (e_ i_)) (l_ (m_ (e_ i_)) (m_ (e_ i_)))))), b⟩) (ab_ (by kernel_rfl) (b_ rfl (at_ (bj_ (m_ i_) (bj_ (m_ i_) (bj_ (m_ i_) (bj_ (m_ i_) (dw_ (m_ i_)))))) ?_)))))
     refine aC_ ((b12, .cells #[str (Fc.b f)] 9 (0, 0)) :: ((b11, .cells #[str (Fc.a f), str (Fc.r f)] 145 (0, 0)) :: ((b10, .cells #[str (Fc.b f), str (Fc.r f)] 145 (0, 0)) :: ((b5, .cells #[str (Fc.a f)] 9 (0, 0)) :: ((b1, .cells (Fc.cells f).toArray 41 (0, 0)) :: []))))) (by kernel_rfl) ?_
     refine ad_ 6 [0, 1, 2, 3, 4, 5, 6] (by kernel_rfl) (fun _ a b => ⟨Vw.sat.sub (a.perm (l_ i_ (l_ i_ (l_ i_ (l_ i_ i_))))), b⟩) (k_ rfl (h_ rfl) rfl (k_ rfl (af_ rfl) rfl (k_ rfl (j_ D_ rfl rfl rfl dp_) rfl (k_ rfl (aa_ ed_ rfl (fun v _ h => by exact h.1) rfl) rfl (k_ rfl (L_ 2 dr_ bl_ rfl rfl rfl) rfl (k_ rfl (j_ u_ rfl rfl rfl s_) rfl (k_ rfl (q_ 4 w_ rfl rfl rfl) rfl (ac_ (O_ 7 rfl (by kernel_rfl) ?_)))))))))
     refine aK_ P_ s_ bq_ rfl rfl rfl rfl rfl rfl fun b13 => ?_
     refine d_ (r_ rfl (C_ (fun _ a b => ⟨Vw.sat.sub (a.perm (l_ (e_ i_) (l_ (e_ i_) (l_ (e_ i_) (l_ (e_ i_) (e_ i_)))))), b⟩) (O_ 8 rfl (by kernel_rfl) ?_)))
     have hbb13 := (hyl ((Fc.b f), (Fc.r f))).2.1
     refine dy_ (k := ((Fc.b f), (Fc.r f))) cR_ hi cc_ by_ rfl rfl (e_ (e_ (e_ (e_ (e_ (e_ (m_ (m_ (m_ z_))))))))) rfl fun es13 ce13 ie13 se13 ve13 Hk13 Hx13 ho13 hw13 => ?_
     refine d_ (r_ rfl (C_ (fun _ a b => ⟨Vw.sat.sub (a.perm (l_ (e_ (m_ (m_ (e_ i_)))) (l_ (e_ (m_ (m_ (e_ i_)))) (l_ (e_ (m_ (m_ (e_ i_)))) (l_ (e_ (m_ (m_ (e_ i_)))) (e_ (m_ (m_ (e_ i_))))))))), b⟩) (ad_ 2 [9, 11] (by kernel_rfl) (fun _ a b => ⟨Vw.sat.sub (a.perm (l_ (e_ (m_ (m_ (e_ i_)))) (l_ (e_ (m_ (m_ (e_ i_)))) (l_ (e_ (m_ (m_ (e_ i_)))) (l_ (e_ (m_ (m_ (e_ i_)))) (e_ (m_ (m_ (e_ i_))))))))), b⟩) (k_ rfl (ae_ rfl rfl) rfl (k_ rfl (ae_ rfl rfl) rfl (ac_ (O_ 10 rfl (by kernel_rfl) (bd_ (news := List.flatMap bg_ [(Fc.a f)]) dt_ hw13 rfl rfl (e_ z_) rfl (dx_ (e_ (m_ (m_ i_)))) (fun u hu => bV_ cO_ hu) (by simp only [maxLen]; omega) (by omega) rfl fun sv7 Hr7 hr7 => ?_))))))))
     have hq7 : bk_ 9 1 sv7 (List.length ((lat x.into ((Fc.b f), (Fc.r f))) ++ [(Fc.a f)])) (List.flatMap bg_ ((lat x.into ((Fc.b f), (Fc.r f))) ++ [(Fc.a f)])) Hr7 := by rw [List.length_append, List.flatMap_append]; exact hr7
     refine d_ (r_ rfl (C_ (fun _ a b => ⟨Vw.sat.sub (a.perm (l_ (m_ (e_ (m_ (e_ i_)))) (l_ (m_ (e_ (m_ (e_ i_)))) (l_ (m_ (e_ (m_ (e_ i_)))) (l_ (m_ (e_ (m_ (e_ i_)))) (m_ (e_ (m_ (e_ i_))))))))), b⟩) (O_ 12 rfl (by kernel_rfl) (bZ_ (k := ((Fc.b f), (Fc.r f))) (dd := (Fc.a f)) ho13 (by rw [cZ_]; exact hq7) rfl rfl rfl (cY_ (l_ (m_ i_) (I_ z_ z_))) fun H14 hM14 => ?_))))
     refine d_ (r_ rfl (C_ (fun _ a b => ⟨Vw.sat.sub (a.perm (l_ (m_ (e_ i_)) (l_ (m_ (e_ i_)) (l_ (m_ (e_ i_)) (l_ (m_ (e_ i_)) (m_ (e_ i_))))))), b⟩) (ab_ (by kernel_rfl) (aO_ rfl ?_))))
     exact cn_ eu_ ⟨IxH.mk Ha H6 H12 H14 Hr Hm, by have e0 : x.add (decide (f ∈ fm)) f = { x with under := (x.under ++ [((Fc.b f), (Fc.a f))]), frm := (x.frm ++ [(((Fc.a f), (Fc.r f)), (Fc.b f))]), into := (x.into ++ [(((Fc.b f), (Fc.r f)), (Fc.a f))]) } := (by unfold Ix.add; rw [if_neg (by omega), if_pos (by assumption)]); rw [e0]; exact ⟨ha, hM6, hM12, hM14, hr, hm⟩⟩ rfl (I_ (m_ (e_ (e_ (e_ (e_ (e_ (e_ (m_ (m_ z_))))))))) (I_ (m_ (e_ (e_ (e_ (e_ (e_ (e_ (m_ z_)))))))) (I_ (m_ (e_ (e_ (e_ (e_ (e_ (e_ z_))))))) (I_ z_ (I_ (e_ (e_ (e_ (e_ (e_ (e_ z_)))))) (I_ (e_ (e_ (e_ (e_ (e_ (e_ z_)))))) (e_ (e_ (e_ (e_ (e_ ai_))))))))))) (fun _ _ _ => trivial)
   ·
    refine aK_ P_ s_ bq_ rfl rfl rfl rfl rfl rfl fun b14 => ?_
    refine d_ (r_ rfl (C_ (fun _ a b => ⟨Vw.sat.sub (a.perm (e_ (e_ i_))), b⟩) (O_ 12 rfl (by kernel_rfl) (a_ (gX_ (k := (Fc.b f)) hX_ ho5 cr_ by_ rfl rfl 1 rfl) rfl (d_ (r_ rfl (C_ (fun _ a b => ⟨Vw.sat.sub (a.perm (e_ (e_ i_))), b⟩) (O_ 16 rfl (by kernel_rfl) (bd_ (news := List.flatMap bg_ [(Fc.a f)]) dt_ hw5 rfl rfl (e_ (e_ (e_ z_))) rfl (cQ_ 0 rfl) (fun u hu => bV_ cO_ hu) (by simp only [maxLen]; omega) (by omega) rfl fun sv8 Hr8 hr8 => ?_)))))))))
    have hq8 : bk_ 9 1 sv8 (List.length ((lat x.under (Fc.b f)) ++ [(Fc.a f)])) (List.flatMap bg_ ((lat x.under (Fc.b f)) ++ [(Fc.a f)])) Hr8 := by rw [List.length_append, List.flatMap_append]; exact hr8
    refine d_ (r_ rfl (C_ (fun _ a b => ⟨Vw.sat.sub (a.perm (m_ (e_ (e_ i_)))), b⟩) (O_ 17 rfl (by kernel_rfl) (gj_ (k := (Fc.b f)) (dd := (Fc.a f)) hX_ ho5 (by rw [cZ_]; exact hq8) (.inr rfl) cr_ rfl rfl rfl (cY_ (l_ (m_ (e_ i_)) (I_ z_ (e_ (e_ z_))))) fun H15 hM15 => ?_))))
    refine d_ (r_ rfl (C_ (fun _ a b => ⟨Vw.sat.sub (a.perm (m_ (e_ i_))), b⟩) (ab_ (by kernel_rfl) (b_ rfl (at_ (bj_ (m_ i_) (dw_ (m_ i_))) (f_ ?_))))))
    refine aN_ (by kernel_rfl) ?_
    refine ad_ 4 [0, 1, 2, 3, 4, 5, 6, 7, 8, 9] (by kernel_rfl) (fun _ a b => ⟨a, b⟩) (k_ rfl (j_ u_ rfl rfl rfl s_) rfl (k_ rfl (q_ 1 w_ rfl rfl rfl) rfl (k_ rfl (j_ u_ rfl rfl rfl s_) rfl (k_ rfl (q_ 1 w_ rfl rfl rfl) rfl (k_ rfl (ag_ eU_ rfl rfl) rfl (k_ rfl (j_ u_ rfl rfl rfl s_) rfl (k_ rfl (q_ 1 w_ rfl rfl rfl) rfl (k_ rfl (j_ u_ rfl rfl rfl s_) rfl (k_ rfl (q_ 1 w_ rfl rfl rfl) rfl ?_)))))))))
    refine k_ rfl (ag_ eU_ rfl rfl) rfl (ac_ ?_)
    refine eZ_ 10 11 rfl rfl (by kernel_rfl) ?_ ?_
    ·
     refine al_ cC_ rfl fun b15 => ?_
     refine d_ (r_ rfl (C_ (fun _ a b => ⟨a.tail, b⟩) (O_ 11 rfl (by kernel_rfl) (al_ cC_ rfl fun b16 => ?_))))
     refine d_ (r_ rfl (C_ (fun _ a b => ⟨a.tail.tail, b⟩) (O_ 12 rfl (by kernel_rfl) (Z_ 1 bl_ rfl rfl rfl rfl rfl rfl (d_ (r_ rfl (C_ (fun _ a b => ⟨a.tail.tail, b⟩) (O_ 13 rfl (by kernel_rfl) (Z_ 0 bl_ rfl rfl rfl rfl rfl rfl ?_)))))))))
     refine d_ (r_ rfl (C_ (fun _ a b => ⟨a.tail.tail, b⟩) (ab_ (by kernel_rfl) (b_ rfl (f_ ?_)))))
     refine aC_ ((b16, .cells #[str (Fc.b f), str (Fc.r f)] 145 (0, 0)) :: ((b15, .cells #[str (Fc.a f), str (Fc.r f)] 145 (0, 0)) :: ((b14, .cells #[str (Fc.a f)] 9 (0, 0)) :: ((b1, .cells (Fc.cells f).toArray 41 (0, 0)) :: [])))) (by kernel_rfl) ?_
     refine ad_ 6 [0, 1, 2, 3, 4, 5, 6] (by kernel_rfl) (fun _ a b => ⟨Vw.sat.sub (a.perm (l_ i_ (l_ i_ (l_ i_ i_)))), b⟩) (k_ rfl (h_ rfl) rfl (k_ rfl (af_ rfl) rfl (k_ rfl (j_ D_ rfl rfl rfl dp_) rfl (k_ rfl (aa_ ed_ rfl (fun v _ h => by exact h.1) rfl) rfl (k_ rfl (L_ 1 dr_ bl_ rfl rfl rfl) rfl (k_ rfl (j_ u_ rfl rfl rfl s_) rfl (k_ rfl (q_ 3 w_ rfl rfl rfl) rfl (ac_ (O_ 7 rfl (by kernel_rfl) ?_)))))))))
     refine aK_ P_ s_ bq_ rfl rfl rfl rfl rfl rfl fun b17 => ?_
     refine d_ (r_ rfl (C_ (fun _ a b => ⟨Vw.sat.sub (a.perm (l_ (e_ i_) (l_ (e_ i_) (l_ (e_ i_) (e_ i_))))), b⟩) (O_ 8 rfl (by kernel_rfl) ?_)))
     have hbb16 := (hyl ((Fc.a f), (Fc.r f))).1
     refine dy_ (k := ((Fc.a f), (Fc.r f))) cR_ ho cc_ by_ rfl rfl (e_ (e_ (e_ (e_ (e_ (m_ (m_ z_))))))) rfl fun es16 ce16 ie16 se16 ve16 Hk16 Hx16 ho16 hw16 => ?_
     refine d_ (r_ rfl (C_ (fun _ a b => ⟨Vw.sat.sub (a.perm (l_ (e_ (m_ (m_ (e_ i_)))) (l_ (e_ (m_ (m_ (e_ i_)))) (l_ (e_ (m_ (m_ (e_ i_)))) (e_ (m_ (m_ (e_ i_)))))))), b⟩) (ad_ 2 [9, 11] (by kernel_rfl) (fun _ a b => ⟨Vw.sat.sub (a.perm (l_ (e_ (m_ (m_ (e_ i_)))) (l_ (e_ (m_ (m_ (e_ i_)))) (l_ (e_ (m_ (m_ (e_ i_)))) (e_ (m_ (m_ (e_ i_)))))))), b⟩) (k_ rfl (ae_ rfl rfl) rfl (k_ rfl (ae_ rfl rfl) rfl (ac_ (O_ 10 rfl (by kernel_rfl) (bd_ (news := List.flatMap bg_ [(Fc.b f)]) dt_ hw16 rfl rfl (e_ z_) rfl (dx_ (e_ (m_ (m_ i_)))) (fun u hu => bV_ cO_ hu) (by simp only [maxLen]; omega) (by omega) rfl fun sv9 Hr9 hr9 => ?_))))))))
     have hq9 : bk_ 9 1 sv9 (List.length ((lat x.frm ((Fc.a f), (Fc.r f))) ++ [(Fc.b f)])) (List.flatMap bg_ ((lat x.frm ((Fc.a f), (Fc.r f))) ++ [(Fc.b f)])) Hr9 := by rw [List.length_append, List.flatMap_append]; exact hr9
     refine d_ (r_ rfl (C_ (fun _ a b => ⟨Vw.sat.sub (a.perm (l_ (m_ (e_ (m_ (e_ i_)))) (l_ (m_ (e_ (m_ (e_ i_)))) (l_ (m_ (e_ (m_ (e_ i_)))) (m_ (e_ (m_ (e_ i_)))))))), b⟩) (O_ 12 rfl (by kernel_rfl) (bZ_ (k := ((Fc.a f), (Fc.r f))) (dd := (Fc.b f)) ho16 (by rw [cZ_]; exact hq9) rfl rfl rfl (cY_ (l_ (m_ i_) (I_ z_ z_))) fun H17 hM17 => ?_))))
     refine d_ (r_ rfl (C_ (fun _ a b => ⟨Vw.sat.sub (a.perm (l_ (m_ (e_ i_)) (l_ (m_ (e_ i_)) (l_ (m_ (e_ i_)) (m_ (e_ i_)))))), b⟩) (ab_ (by kernel_rfl) (b_ rfl (at_ (bj_ (m_ i_) (bj_ (m_ i_) (bj_ (m_ i_) (bj_ (m_ i_) (dw_ (m_ i_)))))) ?_)))))
     refine aC_ ((b17, .cells #[str (Fc.b f)] 9 (0, 0)) :: ((b16, .cells #[str (Fc.b f), str (Fc.r f)] 145 (0, 0)) :: ((b15, .cells #[str (Fc.a f), str (Fc.r f)] 145 (0, 0)) :: ((b14, .cells #[str (Fc.a f)] 9 (0, 0)) :: ((b1, .cells (Fc.cells f).toArray 41 (0, 0)) :: []))))) (by kernel_rfl) ?_
     refine ad_ 6 [0, 1, 2, 3, 4, 5, 6] (by kernel_rfl) (fun _ a b => ⟨Vw.sat.sub (a.perm (l_ i_ (l_ i_ (l_ i_ (l_ i_ i_))))), b⟩) (k_ rfl (h_ rfl) rfl (k_ rfl (af_ rfl) rfl (k_ rfl (j_ D_ rfl rfl rfl dp_) rfl (k_ rfl (aa_ ed_ rfl (fun v _ h => by exact h.1) rfl) rfl (k_ rfl (L_ 1 dr_ bl_ rfl rfl rfl) rfl (k_ rfl (j_ u_ rfl rfl rfl s_) rfl (k_ rfl (q_ 4 w_ rfl rfl rfl) rfl (ac_ (O_ 7 rfl (by kernel_rfl) ?_)))))))))
     refine aK_ P_ s_ bq_ rfl rfl rfl rfl rfl rfl fun b18 => ?_
     refine d_ (r_ rfl (C_ (fun _ a b => ⟨Vw.sat.sub (a.perm (l_ (e_ i_) (l_ (e_ i_) (l_ (e_ i_) (l_ (e_ i_) (e_ i_)))))), b⟩) (O_ 8 rfl (by kernel_rfl) ?_)))
     have hbb18 := (hyl ((Fc.b f), (Fc.r f))).2.1
     refine dy_ (k := ((Fc.b f), (Fc.r f))) cR_ hi cc_ by_ rfl rfl (e_ (e_ (e_ (e_ (e_ (e_ (m_ (m_ (m_ z_))))))))) rfl fun es18 ce18 ie18 se18 ve18 Hk18 Hx18 ho18 hw18 => ?_
     refine d_ (r_ rfl (C_ (fun _ a b => ⟨Vw.sat.sub (a.perm (l_ (e_ (m_ (m_ (e_ i_)))) (l_ (e_ (m_ (m_ (e_ i_)))) (l_ (e_ (m_ (m_ (e_ i_)))) (l_ (e_ (m_ (m_ (e_ i_)))) (e_ (m_ (m_ (e_ i_))))))))), b⟩) (ad_ 2 [9, 11] (by kernel_rfl) (fun _ a b => ⟨Vw.sat.sub (a.perm (l_ (e_ (m_ (m_ (e_ i_)))) (l_ (e_ (m_ (m_ (e_ i_)))) (l_ (e_ (m_ (m_ (e_ i_)))) (l_ (e_ (m_ (m_ (e_ i_)))) (e_ (m_ (m_ (e_ i_))))))))), b⟩) (k_ rfl (ae_ rfl rfl) rfl (k_ rfl (ae_ rfl rfl) rfl (ac_ (O_ 10 rfl (by kernel_rfl) (bd_ (news := List.flatMap bg_ [(Fc.a f)]) dt_ hw18 rfl rfl (e_ z_) rfl (dx_ (e_ (m_ (m_ i_)))) (fun u hu => bV_ cO_ hu) (by simp only [maxLen]; omega) (by omega) rfl fun sv10 Hr10 hr10 => ?_))))))))
     have hq10 : bk_ 9 1 sv10 (List.length ((lat x.into ((Fc.b f), (Fc.r f))) ++ [(Fc.a f)])) (List.flatMap bg_ ((lat x.into ((Fc.b f), (Fc.r f))) ++ [(Fc.a f)])) Hr10 := by rw [List.length_append, List.flatMap_append]; exact hr10
     refine d_ (r_ rfl (C_ (fun _ a b => ⟨Vw.sat.sub (a.perm (l_ (m_ (e_ (m_ (e_ i_)))) (l_ (m_ (e_ (m_ (e_ i_)))) (l_ (m_ (e_ (m_ (e_ i_)))) (l_ (m_ (e_ (m_ (e_ i_)))) (m_ (e_ (m_ (e_ i_))))))))), b⟩) (O_ 12 rfl (by kernel_rfl) (bZ_ (k := ((Fc.b f), (Fc.r f))) (dd := (Fc.a f)) ho18 (by rw [cZ_]; exact hq10) rfl rfl rfl (cY_ (l_ (m_ i_) (I_ z_ z_))) fun H19 hM19 => ?_))))
     refine d_ (r_ rfl (C_ (fun _ a b => ⟨Vw.sat.sub (a.perm (l_ (m_ (e_ i_)) (l_ (m_ (e_ i_)) (l_ (m_ (e_ i_)) (l_ (m_ (e_ i_)) (m_ (e_ i_))))))), b⟩) (ab_ (by kernel_rfl) (aO_ rfl ?_))))
     exact cn_ eu_ ⟨IxH.mk Ha H15 H17 H19 Hr Hm, by have e0 : x.add (decide (f ∈ fm)) f = { x with under := (x.under ++ [((Fc.b f), (Fc.a f))]), frm := (x.frm ++ [(((Fc.a f), (Fc.r f)), (Fc.b f))]), into := (x.into ++ [(((Fc.b f), (Fc.r f)), (Fc.a f))]) } := (by unfold Ix.add; rw [if_neg (by omega), if_pos (by assumption)]); rw [e0]; exact ⟨ha, hM15, hM17, hM19, hr, hm⟩⟩ rfl (I_ (m_ (e_ (e_ (e_ (e_ (e_ (e_ (m_ (m_ z_))))))))) (I_ (m_ (e_ (e_ (e_ (e_ (e_ (e_ (m_ z_)))))))) (I_ (m_ (e_ (e_ (e_ (e_ (e_ (e_ z_))))))) (I_ z_ (I_ (e_ (e_ (e_ (e_ (e_ (e_ z_)))))) (I_ (e_ (e_ (e_ (e_ (e_ (e_ z_)))))) (e_ (e_ (e_ (e_ (e_ ai_))))))))))) (fun _ _ _ => trivial)
    ·
     refine al_ cC_ rfl fun b19 => ?_
     refine d_ (r_ rfl (C_ (fun _ a b => ⟨a.tail, b⟩) (O_ 10 rfl (by kernel_rfl) (al_ cC_ rfl fun b20 => ?_))))
     refine d_ (r_ rfl (C_ (fun _ a b => ⟨a.tail.tail, b⟩) (O_ 12 rfl (by kernel_rfl) (Z_ 0 bl_ rfl rfl rfl rfl rfl rfl (d_ (r_ rfl (C_ (fun _ a b => ⟨a.tail.tail, b⟩) (O_ 13 rfl (by kernel_rfl) (Z_ 1 bl_ rfl rfl rfl rfl rfl rfl ?_)))))))))
     refine d_ (r_ rfl (C_ (fun _ a b => ⟨a.tail.tail, b⟩) (ab_ (by kernel_rfl) (b_ rfl (f_ ?_)))))
     refine aC_ ((b20, .cells #[str (Fc.a f), str (Fc.r f)] 145 (0, 0)) :: ((b19, .cells #[str (Fc.b f), str (Fc.r f)] 145 (0, 0)) :: ((b14, .cells #[str (Fc.a f)] 9 (0, 0)) :: ((b1, .cells (Fc.cells f).toArray 41 (0, 0)) :: [])))) (by kernel_rfl) ?_
     refine ad_ 6 [0, 1, 2, 3, 4, 5, 6] (by kernel_rfl) (fun _ a b => ⟨Vw.sat.sub (a.perm (l_ i_ (l_ i_ (l_ i_ i_)))), b⟩) (k_ rfl (h_ rfl) rfl (k_ rfl (af_ rfl) rfl (k_ rfl (j_ D_ rfl rfl rfl dp_) rfl (k_ rfl (aa_ ed_ rfl (fun v _ h => by exact h.1) rfl) rfl (k_ rfl (L_ 0 dr_ bl_ rfl rfl rfl) rfl (k_ rfl (j_ u_ rfl rfl rfl s_) rfl (k_ rfl (q_ 3 w_ rfl rfl rfl) rfl (ac_ (O_ 7 rfl (by kernel_rfl) ?_)))))))))
     refine aK_ P_ s_ bq_ rfl rfl rfl rfl rfl rfl fun b21 => ?_
     refine d_ (r_ rfl (C_ (fun _ a b => ⟨Vw.sat.sub (a.perm (l_ (e_ i_) (l_ (e_ i_) (l_ (e_ i_) (e_ i_))))), b⟩) (O_ 8 rfl (by kernel_rfl) ?_)))
     have hbb20 := (hyl ((Fc.a f), (Fc.r f))).1
     refine dy_ (k := ((Fc.a f), (Fc.r f))) cR_ ho cc_ by_ rfl rfl (e_ (e_ (e_ (e_ (e_ (m_ (m_ z_))))))) rfl fun es20 ce20 ie20 se20 ve20 Hk20 Hx20 ho20 hw20 => ?_
     refine d_ (r_ rfl (C_ (fun _ a b => ⟨Vw.sat.sub (a.perm (l_ (e_ (m_ (m_ (e_ i_)))) (l_ (e_ (m_ (m_ (e_ i_)))) (l_ (e_ (m_ (m_ (e_ i_)))) (e_ (m_ (m_ (e_ i_)))))))), b⟩) (ad_ 2 [9, 11] (by kernel_rfl) (fun _ a b => ⟨Vw.sat.sub (a.perm (l_ (e_ (m_ (m_ (e_ i_)))) (l_ (e_ (m_ (m_ (e_ i_)))) (l_ (e_ (m_ (m_ (e_ i_)))) (e_ (m_ (m_ (e_ i_)))))))), b⟩) (k_ rfl (ae_ rfl rfl) rfl (k_ rfl (ae_ rfl rfl) rfl (ac_ (O_ 10 rfl (by kernel_rfl) (bd_ (news := List.flatMap bg_ [(Fc.b f)]) dt_ hw20 rfl rfl (e_ z_) rfl (dx_ (e_ (m_ (m_ i_)))) (fun u hu => bV_ cO_ hu) (by simp only [maxLen]; omega) (by omega) rfl fun sv11 Hr11 hr11 => ?_))))))))
     have hq11 : bk_ 9 1 sv11 (List.length ((lat x.frm ((Fc.a f), (Fc.r f))) ++ [(Fc.b f)])) (List.flatMap bg_ ((lat x.frm ((Fc.a f), (Fc.r f))) ++ [(Fc.b f)])) Hr11 := by rw [List.length_append, List.flatMap_append]; exact hr11
     refine d_ (r_ rfl (C_ (fun _ a b => ⟨Vw.sat.sub (a.perm (l_ (m_ (e_ (m_ (e_ i_)))) (l_ (m_ (e_ (m_ (e_ i_)))) (l_ (m_ (e_ (m_ (e_ i_)))) (m_ (e_ (m_ (e_ i_)))))))), b⟩) (O_ 12 rfl (by kernel_rfl) (bZ_ (k := ((Fc.a f), (Fc.r f))) (dd := (Fc.b f)) ho20 (by rw [cZ_]; exact hq11) rfl rfl rfl (cY_ (l_ (m_ i_) (I_ z_ z_))) fun H21 hM21 => ?_))))
     refine d_ (r_ rfl (C_ (fun _ a b => ⟨Vw.sat.sub (a.perm (l_ (m_ (e_ i_)) (l_ (m_ (e_ i_)) (l_ (m_ (e_ i_)) (m_ (e_ i_)))))), b⟩) (ab_ (by kernel_rfl) (b_ rfl (at_ (bj_ (m_ i_) (bj_ (m_ i_) (bj_ (m_ i_) (bj_ (m_ i_) (dw_ (m_ i_)))))) ?_)))))
     refine aC_ ((b21, .cells #[str (Fc.b f)] 9 (0, 0)) :: ((b20, .cells #[str (Fc.a f), str (Fc.r f)] 145 (0, 0)) :: ((b19, .cells #[str (Fc.b f), str (Fc.r f)] 145 (0, 0)) :: ((b14, .cells #[str (Fc.a f)] 9 (0, 0)) :: ((b1, .cells (Fc.cells f).toArray 41 (0, 0)) :: []))))) (by kernel_rfl) ?_
     refine ad_ 6 [0, 1, 2, 3, 4, 5, 6] (by kernel_rfl) (fun _ a b => ⟨Vw.sat.sub (a.perm (l_ i_ (l_ i_ (l_ i_ (l_ i_ i_))))), b⟩) (k_ rfl (h_ rfl) rfl (k_ rfl (af_ rfl) rfl (k_ rfl (j_ D_ rfl rfl rfl dp_) rfl (k_ rfl (aa_ ed_ rfl (fun v _ h => by exact h.1) rfl) rfl (k_ rfl (L_ 2 dr_ bl_ rfl rfl rfl) rfl (k_ rfl (j_ u_ rfl rfl rfl s_) rfl (k_ rfl (q_ 4 w_ rfl rfl rfl) rfl (ac_ (O_ 7 rfl (by kernel_rfl) ?_)))))))))
     refine aK_ P_ s_ bq_ rfl rfl rfl rfl rfl rfl fun b22 => ?_
     refine d_ (r_ rfl (C_ (fun _ a b => ⟨Vw.sat.sub (a.perm (l_ (e_ i_) (l_ (e_ i_) (l_ (e_ i_) (l_ (e_ i_) (e_ i_)))))), b⟩) (O_ 8 rfl (by kernel_rfl) ?_)))
     have hbb22 := (hyl ((Fc.b f), (Fc.r f))).2.1
     refine dy_ (k := ((Fc.b f), (Fc.r f))) cR_ hi cc_ by_ rfl rfl (e_ (e_ (e_ (e_ (e_ (e_ (m_ (m_ (m_ z_))))))))) rfl fun es22 ce22 ie22 se22 ve22 Hk22 Hx22 ho22 hw22 => ?_
     refine d_ (r_ rfl (C_ (fun _ a b => ⟨Vw.sat.sub (a.perm (l_ (e_ (m_ (m_ (e_ i_)))) (l_ (e_ (m_ (m_ (e_ i_)))) (l_ (e_ (m_ (m_ (e_ i_)))) (l_ (e_ (m_ (m_ (e_ i_)))) (e_ (m_ (m_ (e_ i_))))))))), b⟩) (ad_ 2 [9, 11] (by kernel_rfl) (fun _ a b => ⟨Vw.sat.sub (a.perm (l_ (e_ (m_ (m_ (e_ i_)))) (l_ (e_ (m_ (m_ (e_ i_)))) (l_ (e_ (m_ (m_ (e_ i_)))) (l_ (e_ (m_ (m_ (e_ i_)))) (e_ (m_ (m_ (e_ i_))))))))), b⟩) (k_ rfl (ae_ rfl rfl) rfl (k_ rfl (ae_ rfl rfl) rfl (ac_ (O_ 10 rfl (by kernel_rfl) (bd_ (news := List.flatMap bg_ [(Fc.a f)]) dt_ hw22 rfl rfl (e_ z_) rfl (dx_ (e_ (m_ (m_ i_)))) (fun u hu => bV_ cO_ hu) (by simp only [maxLen]; omega) (by omega) rfl fun sv12 Hr12 hr12 => ?_))))))))
     have hq12 : bk_ 9 1 sv12 (List.length ((lat x.into ((Fc.b f), (Fc.r f))) ++ [(Fc.a f)])) (List.flatMap bg_ ((lat x.into ((Fc.b f), (Fc.r f))) ++ [(Fc.a f)])) Hr12 := by rw [List.length_append, List.flatMap_append]; exact hr12
     refine d_ (r_ rfl (C_ (fun _ a b => ⟨Vw.sat.sub (a.perm (l_ (m_ (e_ (m_ (e_ i_)))) (l_ (m_ (e_ (m_ (e_ i_)))) (l_ (m_ (e_ (m_ (e_ i_)))) (l_ (m_ (e_ (m_ (e_ i_)))) (m_ (e_ (m_ (e_ i_))))))))), b⟩) (O_ 12 rfl (by kernel_rfl) (bZ_ (k := ((Fc.b f), (Fc.r f))) (dd := (Fc.a f)) ho22 (by rw [cZ_]; exact hq12) rfl rfl rfl (cY_ (l_ (m_ i_) (I_ z_ z_))) fun H23 hM23 => ?_))))
     refine d_ (r_ rfl (C_ (fun _ a b => ⟨Vw.sat.sub (a.perm (l_ (m_ (e_ i_)) (l_ (m_ (e_ i_)) (l_ (m_ (e_ i_)) (l_ (m_ (e_ i_)) (m_ (e_ i_))))))), b⟩) (ab_ (by kernel_rfl) (aO_ rfl ?_))))
     exact cn_ eu_ ⟨IxH.mk Ha H15 H21 H23 Hr Hm, by have e0 : x.add (decide (f ∈ fm)) f = { x with under := (x.under ++ [((Fc.b f), (Fc.a f))]), frm := (x.frm ++ [(((Fc.a f), (Fc.r f)), (Fc.b f))]), into := (x.into ++ [(((Fc.b f), (Fc.r f)), (Fc.a f))]) } := (by unfold Ix.add; rw [if_neg (by omega), if_pos (by assumption)]); rw [e0]; exact ⟨ha, hM15, hM21, hM23, hr, hm⟩⟩ rfl (I_ (m_ (e_ (e_ (e_ (e_ (e_ (e_ (m_ (m_ z_))))))))) (I_ (m_ (e_ (e_ (e_ (e_ (e_ (e_ (m_ z_)))))))) (I_ (m_ (e_ (e_ (e_ (e_ (e_ (e_ z_))))))) (I_ z_ (I_ (e_ (e_ (e_ (e_ (e_ (e_ z_)))))) (I_ (e_ (e_ (e_ (e_ (e_ (e_ z_)))))) (e_ (e_ (e_ (e_ (e_ ai_))))))))))) (fun _ _ _ => trivial)
 ·
  replace hr1 := eq_of_beq hr1
  refine n_ rfl ?_
  have hbb24 := (hxl (Fc.a f)).1
  refine oy_ hX_ (Fc.a f) ha (e_ z_) fun es24 ce24 ve24 Hk24 Hx24 hw24 ho24 => ?_
  refine at_ (bj_ i_ (dw_ (m_ (m_ i_)))) ?_
  refine aC_ ((b1, .cells (Fc.cells f).toArray 41 (0, 0)) :: []) (by kernel_rfl) ?_
  refine ad_ 4 [0, 1, 2, 3, 4, 5, 6, 7, 8, 9, 10, 11, 13, 14] (by kernel_rfl) (fun _ a b => ⟨Vw.sat.sub (a.perm (e_ i_)), b⟩) (k_ rfl (h_ rfl) rfl (k_ rfl (af_ rfl) rfl (k_ rfl (j_ D_ rfl rfl rfl hF_) rfl (k_ rfl (aa_ nU_ rfl (fun v _ h => by exact h.1) rfl) rfl (k_ rfl (j_ u_ rfl rfl rfl s_) rfl (k_ rfl (q_ 0 w_ rfl rfl rfl) rfl (k_ rfl (h_ rfl) rfl (k_ rfl (af_ rfl) rfl (k_ rfl (j_ D_ rfl rfl rfl hF_) rfl ?_)))))))))
  refine k_ rfl (aa_ nU_ rfl (fun v _ h => by exact h.1) rfl) rfl (k_ rfl (j_ u_ rfl rfl rfl s_) rfl (k_ rfl (q_ 0 w_ rfl rfl rfl) rfl (k_ rfl (j_ u_ rfl rfl rfl s_) rfl (k_ rfl (q_ 0 w_ rfl rfl rfl) rfl (ac_ ?_)))))
  refine eZ_ 12 15 rfl rfl (by kernel_rfl) ?_ ?_
  ·
   refine a_ (gX_ (k := (Fc.a f)) hX_ ho24 cr_ by_ rfl rfl 0 rfl) rfl (d_ (r_ rfl (C_ (fun _ a b => ⟨Vw.sat.sub (a.perm (e_ i_)), b⟩) (O_ 15 rfl (by kernel_rfl) (aK_ P_ s_ bq_ rfl rfl rfl rfl rfl rfl fun b23 => ?_)))))
   refine d_ (r_ rfl (C_ (fun _ a b => ⟨Vw.sat.sub (a.perm (e_ (e_ i_))), b⟩) (O_ 16 rfl (by kernel_rfl) (bd_ (news := List.flatMap bg_ [(Fc.b f)]) dt_ hw24 rfl rfl (e_ (e_ (e_ z_))) rfl (cQ_ 0 rfl) (fun u hu => bV_ cO_ hu) (by simp only [maxLen]; omega) (by omega) rfl fun sv13 Hr13 hr13 => ?_))))
   have hq13 : bk_ 9 1 sv13 (List.length ((lat x.above (Fc.a f)) ++ [(Fc.b f)])) (List.flatMap bg_ ((lat x.above (Fc.a f)) ++ [(Fc.b f)])) Hr13 := by rw [List.length_append, List.flatMap_append]; exact hr13
   refine d_ (r_ rfl (C_ (fun _ a b => ⟨Vw.sat.sub (a.perm (m_ (e_ (e_ i_)))), b⟩) (O_ 17 rfl (by kernel_rfl) (gj_ (k := (Fc.a f)) (dd := (Fc.b f)) hX_ ho24 (by rw [cZ_]; exact hq13) (.inr rfl) cr_ rfl rfl rfl (cY_ (l_ (m_ (e_ i_)) (I_ z_ (e_ (e_ z_))))) fun H25 hM25 => ?_))))
   refine d_ (r_ rfl (C_ (fun _ a b => ⟨Vw.sat.sub (a.perm (m_ (e_ i_))), b⟩) (ab_ (by kernel_rfl) (aO_ rfl ?_))))
   exact cn_ eu_ ⟨IxH.mk H25 Hu Ho Hi Hr Hm, by have e0 : x.add (decide (f ∈ fm)) f = { x with above := (x.above ++ [((Fc.a f), (Fc.b f))]) } := (by unfold Ix.add; rw [if_pos (by assumption)]); rw [e0]; exact ⟨hM25, hu, ho, hi, hr, hm⟩⟩ rfl (I_ z_ (I_ (e_ (e_ z_)) (I_ (e_ (e_ z_)) (I_ (e_ (e_ z_)) (I_ (e_ (e_ z_)) (I_ (e_ (e_ z_)) (e_ ai_))))))) (fun _ _ _ => trivial)
  ·
   refine aK_ P_ s_ bq_ rfl rfl rfl rfl rfl rfl fun b24 => ?_
   refine d_ (r_ rfl (C_ (fun _ a b => ⟨Vw.sat.sub (a.perm (e_ (e_ i_))), b⟩) (O_ 12 rfl (by kernel_rfl) (a_ (gX_ (k := (Fc.a f)) hX_ ho24 cr_ by_ rfl rfl 1 rfl) rfl (d_ (r_ rfl (C_ (fun _ a b => ⟨Vw.sat.sub (a.perm (e_ (e_ i_))), b⟩) (O_ 16 rfl (by kernel_rfl) (bd_ (news := List.flatMap bg_ [(Fc.b f)]) dt_ hw24 rfl rfl (e_ (e_ (e_ z_))) rfl (cQ_ 0 rfl) (fun u hu => bV_ cO_ hu) (by simp only [maxLen]; omega) (by omega) rfl fun sv14 Hr14 hr14 => ?_)))))))))
   have hq14 : bk_ 9 1 sv14 (List.length ((lat x.above (Fc.a f)) ++ [(Fc.b f)])) (List.flatMap bg_ ((lat x.above (Fc.a f)) ++ [(Fc.b f)])) Hr14 := by rw [List.length_append, List.flatMap_append]; exact hr14
   refine d_ (r_ rfl (C_ (fun _ a b => ⟨Vw.sat.sub (a.perm (m_ (e_ (e_ i_)))), b⟩) (O_ 17 rfl (by kernel_rfl) (gj_ (k := (Fc.a f)) (dd := (Fc.b f)) hX_ ho24 (by rw [cZ_]; exact hq14) (.inr rfl) cr_ rfl rfl rfl (cY_ (l_ (m_ (e_ i_)) (I_ z_ (e_ (e_ z_))))) fun H26 hM26 => ?_))))
   refine d_ (r_ rfl (C_ (fun _ a b => ⟨Vw.sat.sub (a.perm (m_ (e_ i_))), b⟩) (ab_ (by kernel_rfl) (aO_ rfl ?_))))
   exact cn_ eu_ ⟨IxH.mk H26 Hu Ho Hi Hr Hm, by have e0 : x.add (decide (f ∈ fm)) f = { x with above := (x.above ++ [((Fc.a f), (Fc.b f))]) } := (by unfold Ix.add; rw [if_pos (by assumption)]); rw [e0]; exact ⟨hM26, hu, ho, hi, hr, hm⟩⟩ rfl (I_ z_ (I_ (e_ (e_ z_)) (I_ (e_ (e_ z_)) (I_ (e_ (e_ z_)) (I_ (e_ (e_ z_)) (I_ (e_ (e_ z_)) (e_ ai_))))))) (fun _ _ _ => trivial)
end Go.Proofs.YtpdbbglpbngeiaaGreatDoor
