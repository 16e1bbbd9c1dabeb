/-
  Part of the proof of the law CheckerBytes over this seat: the small logic, the data, the contracts of functions (no condition).
-/
import Derived.Test.YtaffcjgphlhppaaGreatDoorQCheckerBytes4
import Derived.Test.YtaffcjgphlhppaaGreatDoorQCheckerBytes2
import Derived.Test.YtaffcjgphlhppaaGreatDoorQCheckerBytes3
import Derived.ProofKit
import Derived.OpenShut
import Derived.ReadAgain
import Derived.Deep.Slices
import Derived.SevenTiedAt
import Derived.Stop.Joined
import Derived.Lay
import Derived.LaidMore
import Derived.Lib.SlicesCompact
import Derived.Sort.EncStr
set_option linter.unusedVariables false
set_option linter.unusedSimpArgs false
set_option linter.unusedSectionVars false
namespace Go.Proofs.YtaffcjgphlhppaaGreatDoor
open Go Go.Sx Go.Proofs
attribute [local irreducible] Code.wp wpList wpAnyH
open Go.Vs
structure CS where
  sv : Value
  bm : Nat
  es : Array MapEntry
  clk : Nat
  Hr : Hp
def collH (kb : Nat) (frm : Int) (q : CS) : Hp := (kb, .cells #[.int .i64 frm, q.sv, .map (some q.bm)] 126 (0, 0)) :: (q.bm, .map q.es q.clk) :: q.Hr
structure CInv (l : List Pc) (q : CS) : Prop where
  row : bi_ 73 10 q.sv l.length (l.flatMap Pc.cells) q.Hr
  keys : q.es.toList.map (·.key) = l.map Pc.val
  vals : ∀ x ∈ q.es.toList, x.val = .bool true
theorem CInv.push {l : List Pc} {p : Pc} {sv sv2 : Value} {bm clk : Nat} {es : Array MapEntry} {Hr Hr2 : Hp} (h : CInv l ⟨sv, bm, es, clk, Hr⟩) (hr : bi_ 73 10 sv2 (l.length + 1) (l.flatMap Pc.cells ++ p.cells) Hr2) : CInv (l ++ [p]) ⟨sv2, bm, es.push ⟨p.val, .bool true, clk⟩, clk + 1, Hr2⟩ := by
  refine ⟨?_, ?_, ?_⟩
  · simpa [List.flatMap_append] using hr
  · have := h.keys
    simp only at this
    simp [this]
  · intro x hx
    simp only [Array.toList_push, List.mem_append, List.mem_singleton] at hx
    rcases hx with hx | rfl
    · exact h.vals x hx
    · rfl
end Go.Proofs.YtaffcjgphlhppaaGreatDoor
namespace Go.Proofs.YtaffcjgphlhppaaGreatDoor
open Go Go.Sx Go.Proofs
attribute [local irreducible] Code.wp wpList wpAnyH
open Go.Vs
theorem oX_ : gH_ Tryz.prog 126 [(0, 1), (1, 1), (2, 1)] [.int .i64 0, .slice none 0 0, .map none] := ⟨_, Tryz.zeroValue126, Tryz.runUnderlying126, fun w => by simp [q_, qb_, Tryz.sizeOf124]⟩
theorem id_ (frm : Int) : Tri Tryz.prog 58 #[.int .i64 frm] [] [] (fun x : Nat × Nat => zp_ x.1 0) (fun x => collH x.1 frm ⟨.slice none 0 0, x.2, #[], 0, []⟩) (fun _ => []) := by
  refine S_ Tryz.func58 rfl rfl Tryz.ntmps58 rfl fun v0 => ?_
  refine g_ (c_ (a_ (e_ rfl) rfl (d_ (b_ rfl (g_ (c_ (a_ (f_ rfl) rfl (iU_ rfl fun b1 => ?_))))))))
  refine a_ (ax_ oX_ rfl rfl) rfl (aM_ rfl rfl fun b2 => ?_)
  refine a_ (e_ rfl) rfl (d_ (b_ rfl (u_ ?_)))
  exact Y_ Tryz.results58 (b2, b1) rfl (F := []) (.refl _) (fun _ _ _ => trivial)
def kF (b kb : Nat) : Fct := cp_ b (.cells [zp_ kb 0].toArray 121 (0, 0))
def lFn (b bk : Nat) : Value := .func (.func 118) #[] #[zp_ b 0, zp_ bk 0]
def lF (b bk : Nat) : Fct := cp_ b (.cells [lFn b bk].toArray 127 (0, 0))
def rFn (b bk : Nat) : Value := .func (.func 119) #[] #[zp_ bk 0, zp_ b 0]
def rcF (b bk : Nat) : Fct := cp_ b (.cells [rFn b bk].toArray 127 (0, 0))
theorem pa_ (kb : Nat) : Tri Tryz.prog 60 #[zp_ kb 0] [] [] (fun x : Nat × Nat × Nat => .tuple #[lFn x.2.1 x.1, rFn x.2.2 x.1]) (fun _ => []) (fun x => [kF x.1 kb, lF x.2.1 x.1, rcF x.2.2 x.1]) := by
  refine S_ Tryz.func60 rfl rfl Tryz.ntmps60 rfl fun v0 => ?_
  refine g_ (c_ (aM_ rfl rfl fun b1 => ?_))
  refine Z_ Tryz.zeroValue127 rfl fun b2 => ?_
  refine Z_ Tryz.zeroValue127 rfl fun b3 => ?_
  refine d_ (b_ rfl (g_ (c_ (a_ (dx_ rfl rfl) rfl (Q_ 1 Tryz.sizeOf127 rfl rfl rfl rfl rfl rfl (d_ (b_ rfl (g_ (c_ ?_)))))))))
  refine a_ (dx_ rfl rfl) rfl (Q_ 0 Tryz.sizeOf127 rfl rfl rfl rfl rfl rfl (d_ (b_ rfl (g_ ?_))))
  refine aW_ (by kernel_rfl) ?_
  refine P_ 2 [0, 1] (by kernel_rfl) (fun _ a b => ⟨a, b⟩) (m_ rfl (n_ 1 Tryz.isAgg127 rfl rfl rfl) rfl (m_ rfl (n_ 0 Tryz.isAgg127 rfl rfl rfl) rfl (O_ (L_ 2 rfl (by kernel_rfl) (Q_ 1 Tryz.sizeOf127 rfl rfl rfl rfl rfl rfl (d_ (p_ rfl (D_ (fun _ a b => ⟨a, b⟩) (L_ 3 rfl (by kernel_rfl) ?_)))))))))
  refine Q_ 0 Tryz.sizeOf127 rfl rfl rfl rfl rfl rfl (d_ (p_ rfl (D_ (fun _ a b => ⟨a, b⟩) (T_ (by kernel_rfl) (b_ rfl (u_ (ia_ 0 rfl ?_)))))))
  refine ia_ 0 rfl ?_
  refine ia_ 0 rfl ?_
  exact retG (b1, b2, b3) (fun a v h1 h2 h => pe_ Tryz.results60 Tryz.isAgg127 Tryz.isAgg127 h1 rfl rfl (ib_ (cs := [lFn b2 b1]) 0 h.2.1 rfl) (ib_ (cs := [rFn b3 b1]) 0 h.2.2.1 rfl)) (F := []) (.refl _) (fun v _ h => ⟨h.1, h.2.1, h.2.2.1, trivial⟩)
end Go.Proofs.YtaffcjgphlhppaaGreatDoor
namespace Go.Proofs.YtaffcjgphlhppaaGreatDoor
open Go Go.Sx Go.Proofs
attribute [local irreducible] Code.wp wpList wpAnyH
open Go.Vs
theorem Con.drop_at {ps : List Con} {p : Con} {i : Nat} (hp : ps[i]? = some p) : ps.drop i = p :: ps.drop (i + 1) := by
  have hi := (List.getElem?_eq_some_iff.1 hp).1
  rw [List.getElem?_eq_getElem hi] at hp
  simp only [Option.some.injEq] at hp
  subst hp
  exact List.drop_eq_getElem_cons hi
end Go.Proofs.YtaffcjgphlhppaaGreatDoor
namespace Go.Proofs.YtaffcjgphlhppaaGreatDoor
open Go Go.Sx Go.Proofs
attribute [local irreducible] Code.wp wpList wpAnyH
open Go.Vs
theorem av_ {N : Nf} {fr : Fr} {H : Hp} {Γ : List Fct} {ty t' : TypeId} {x y : Operand} {p q : Fc} (hx : Fr.ev fr x = some p.val) (hy : Fr.ev fr y = some q.val) : Yld Tryz.prog N fr H Γ (.binOp .eql 24 x y t') ty (.bool (decide (p = q))) :=
  fun a v h1 _ _ _ _ _ => by
    have hg : (Program.eqGuardType Tryz.prog Tryz.prog.depth 24) = false := by kernel_rfl
    have he := eqFc p q v.w
    simp only [execOp, h1.ev hx, h1.ev hy, eqGuard, Fc.val, binOp, Op.equal, Sem.run_bind, Result.andThen_ok]
    simp only [run_program, Result.andThen_ok, hg, Bool.not_false, if_true, Sem.run_pure]
    simp only [Fc.val] at he
    simp [Op.maxDepth, he]
theorem iD_ {N : Nf} {fr : Fr} {H : Hp} {Γ : List Fct} {ty t' : TypeId} {x y : Operand} {p q : Fc} (hx : Fr.ev fr x = some p.val) (hy : Fr.ev fr y = some q.val) : Yld Tryz.prog N fr H Γ (.binOp .neq 24 x y t') ty (.bool (decide (p ≠ q))) :=
  fun a v h1 _ _ _ _ _ => by
    have hg : (Program.eqGuardType Tryz.prog Tryz.prog.depth 24) = false := by kernel_rfl
    have he := eqFc p q v.w
    simp only [execOp, h1.ev hx, h1.ev hy, eqGuard, Fc.val, binOp, Op.equal, Sem.run_bind, Result.andThen_ok]
    simp only [run_program, Result.andThen_ok, hg, Bool.not_false, if_true, Sem.run_pure]
    simp only [Fc.val] at he
    simp [Op.maxDepth, he]
theorem jC_ (s : Str) (c : UInt8) : Fn0 Tryz.prog 216 #[str s, str [c]] (.int .i64 (Lib.indexByte s c)) :=
  fr_ (callable Tryz.func216 rfl rfl) fun w => (Tryz.strings_Index_one ⟨s.toArray⟩ c w).mono (by rintro e w' ⟨rfl, rfl⟩; exact ⟨rfl, rfl, rfl, rfl, rfl, Nat.le_refl _⟩)
theorem ix_ (s : Str) (c : UInt8) (k : Nat) (hk : ixS c s = some k) : Fn0 Tryz.prog 216 #[str s, str [c]] (.int .i64 (k : Int)) := by
  have h := jC_ s c
  rw [hw_, hk] at h
  exact h
theorem nL_ (s : Str) (c : UInt8) : Fn0 Tryz.prog 215 #[str s, str [c]] (.int .i64 (dh_ c s : Int)) :=
  fr_ (callable Tryz.func215 rfl rfl) fun w => (Tryz.strings_Count_one ⟨s.toArray⟩ c w).mono (by rintro e w' ⟨rfl, rfl⟩; exact ⟨rfl, rfl, rfl, rfl, rfl, Nat.le_refl _⟩)
theorem ok_H {N : Nf} {v0 : Vw} {H0 : Hp} {k : Act → World → Prop} {fr : Fr} {H H' : Hp} {Γ : List Fct} (e : H = H') (h : Ok N v0 H0 k fr H' Γ) : Ok N v0 H0 k fr H Γ := e ▸ h
theorem lJ_ (s : Str) (c : UInt8) (hs : s.length ≤ 17592186044414) : Tri Tryz.prog 185 #[str s, str [c], .int .i64 0, .int .i64 (-1)] [] [] (fun b : Nat => .slice (some ⟨b, 0, none⟩) (bs_ c s).length (bs_ c s).length) (fun _ => []) (fun b => [aY_ (some ⟨b, 0, none⟩) ((bs_ c s).flatMap dy_)]) := by
 have hcl := gG_ c s
 refine S_ Tryz.func185 rfl rfl Tryz.ntmps185 rfl fun v0 => ?_
 refine g_ (c_ (a_ (e_ rfl) rfl (d_ (b_ rfl (g_ (g_ (c_ (a_ (f_ rfl) rfl (E_ (aG_ rfl rfl) rfl fun r1 hr1 => ?_)))))))))
 refine d_ (b_ rfl ?_)
 cases r1
 ·
  replace hr1 := ne_of_beq_false hr1
  refine A_ rfl (J_ (b_ rfl (g_ (g_ (c_ (a_ (f_ rfl) rfl (E_ (bo_ rfl rfl) rfl fun r2 hr2 => ?_)))))))
  refine d_ (b_ rfl ?_)
  cases r2
  ·
   replace hr2 := ne_of_beq_false hr2
   refine A_ rfl (J_ (b_ rfl (g_ (g_ (c_ (a_ (f_ rfl) rfl (E_ (au_ rfl rfl) rfl fun r3 hr3 => ?_)))))))
   refine d_ (b_ rfl ?_)
   cases r3
   ·
    replace hr3 := of_decide_eq_false hr3
    exact absurd (by decide) hr3
   ·
    replace hr3 := of_decide_eq_true hr3
    refine w_ rfl (c_ (a_ (f_ rfl) rfl (a_ (f_ rfl) rfl (K_ (nL_ s c) rfl (.refl _) (fun _ _ _ => trivial) rfl fun _ => ?_))))
    refine a_ (ag_ rfl rfl rfl (aS_ (by omega) (by omega))) rfl (a_ (e_ rfl) rfl (d_ (b_ rfl (g_ (c_ (a_ (f_ rfl) rfl (a_ (f_ rfl) rfl (a_ (cd_ aa_ rfl) rfl (a_ (ag_ rfl rfl rfl (aS_ (by omega) (by omega))) rfl ?_)))))))))
    refine a_ (ch_ (lV_ rfl rfl) (show _ = Value.int .i64 ((dh_ c s + 1 : Nat) : Int) by rw [if_neg (by omega)]; rfl)) rfl (a_ (e_ rfl) rfl (d_ (b_ rfl (g_ (c_ (a_ (f_ rfl) rfl (mR_ (n := dh_ c s + 1) (by' := 16) Tryz.underlying46 (z := .string ⟨#[]⟩) (by kernel_rfl) rfl rfl rfl (by omega) (by omega) rfl fun b1 => ?_)))))))
    refine a_ (e_ rfl) rfl (d_ (b_ rfl (g_ (c_ (a_ (f_ rfl) rfl (a_ (ch_ (ag_ rfl rfl rfl (aS_ (by omega) (by omega))) (show _ = Value.int .i64 (dh_ c s : Int) by first | rfl | (congr 1; omega))) rfl (a_ (e_ rfl) rfl (d_ (b_ rfl ?_)))))))))
    refine g_ (c_ (a_ (e_ rfl) rfl (d_ (b_ rfl (g_ (ae_ (de_ [(0, str s), (1, str [c]), (2, .int .i64 0), (3, .int .i64 (dh_ c s : Int)), (9, .slice (some ⟨b1, 0, none⟩) (dh_ c s + 1) (dh_ c s + 1)), (10, .int .i64 ((0 : Nat) : Int))] ⟨rfl, rfl, rfl, rfl, rfl, rfl, trivial⟩ ?_)))))))
    refine dq_ (ι := {x : Nat × List Str × Str // x.2.1.length = x.1 ∧ bs_ c s = x.2.1 ++ bs_ c x.2.2 ∧ x.1 + dh_ c x.2.2 = dh_ c s ∧ x.2.2.length ≤ s.length}) (fun x => [(0, str x.1.2.2), (1, str [c]), (2, .int .i64 0), (3, .int .i64 (dh_ c s : Int)), (9, .slice (some ⟨b1, 0, none⟩) (dh_ c s + 1) (dh_ c s + 1)), (10, .int .i64 (x.1.1 : Int))]) (fun x => [(b1, .cells (x.1.2.1.map str ++ List.replicate (dh_ c s + 1 - x.1.1) (Value.string ⟨#[]⟩)).toArray 9 (0, 0))]) (fun _ => _) (fun x => dh_ c s - x.1.1) ⟨(0, [], s), rfl, rfl, by simp, by simp⟩ ?_
    rintro ⟨⟨i, dn, r⟩, hk⟩
    dsimp only at hk
    obtain ⟨hk1, hk2, hk3, hk4⟩ := hk
    refine de_ [(0, str r), (1, str [c]), (2, .int .i64 0), (3, .int .i64 (dh_ c s : Int)), (9, .slice (some ⟨b1, 0, none⟩) (dh_ c s + 1) (dh_ c s + 1)), (10, .int .i64 (i : Int))] ⟨rfl, rfl, rfl, rfl, rfl, rfl, trivial⟩ ?_
    have hrep : ∀ k, k < dh_ c s + 1 → List.replicate (dh_ c s + 1 - k) (Value.string ⟨#[]⟩) = Value.string ⟨#[]⟩ :: List.replicate (dh_ c s - k) (Value.string ⟨#[]⟩) := fun k hk => by rw [show dh_ c s + 1 - k = (dh_ c s - k) + 1 by omega]; rfl
    refine ok_H (H' := [(b1, .cells (dn.map str ++ Value.string ⟨#[]⟩ :: List.replicate (dh_ c s - i) (Value.string ⟨#[]⟩)).toArray 9 (0, 0))]) (by dsimp only; rw [hrep i (by omega)]) ?_
    refine g_ (g_ (c_ (a_ (f_ rfl) rfl (a_ (f_ rfl) rfl (E_ (au_ rfl rfl) rfl fun r4 hr4 => ?_)))))
    refine d_ (b_ rfl ?_)
    cases r4
    ·
     replace hr4 := of_decide_eq_false hr4
     obtain rfl : i = dh_ c s := by omega
     have hr0 : bs_ c r = [r] := by
            cases hx : ixS c r with
            | none => exact eF_ hx
            | some k => have := jo_ hx; omega
     rw [hr0] at hk2
     refine A_ rfl (bj_ rfl (b_ rfl (g_ (c_ (a_ (f_ rfl) rfl (a_ (f_ rfl) rfl (a_ (f_ rfl) rfl (a_ (gK_ aJ_ y_ rfl rfl (by omega) (by omega)) rfl (hT_ 0 y_ rfl rfl rfl (by simp [hk1]) rfl rfl ?_)))))))))
     refine d_ (b_ rfl (g_ (c_ (a_ (f_ rfl) rfl (a_ (f_ rfl) rfl (a_ (ch_ (ag_ rfl rfl rfl (aS_ (by omega) (by omega))) (show _ = Value.int .i64 ((dh_ c s + 1 : Nat) : Int) by first | rfl | (congr 1; omega))) rfl (a_ (ch_ (dE_ (i := 0) (j := dh_ c s + 1) (kl := .i64) (kh := .i64) aJ_ y_ rfl rfl rfl (by omega) (by omega)) (show _ = Value.slice (some ⟨b1, 0, none⟩) (dh_ c s + 1) (dh_ c s + 1) by rw [nK_]; rfl)) rfl (a_ (e_ rfl) rfl (d_ ?_)))))))))
     refine b_ rfl (u_ (bU_ ((bs_ c s).flatMap dy_) C_ (by rw [hk2, hI_]; simp) ?_))
     have hl := df_ c s
     exact Y_ Tryz.results185 b1 (gB_ rfl (by rw [hl])) (.refl _) (fun v _ h => ⟨h.1, trivial⟩)
    ·
     replace hr4 := of_decide_eq_true hr4
     obtain ⟨k, hix⟩ : ∃ k, ixS c r = some k := by
            cases hx : ixS c r with
            | none => have := nj_ hx; omega
            | some k => exact ⟨k, rfl⟩
     have hcs := jo_ hix
     have hkl := lF_ hix
     refine w_ rfl (J_ (b_ rfl (ae_ (g_ (c_ (a_ (f_ rfl) rfl (a_ (f_ rfl) rfl (K_ (ix_ r c k hix) rfl (.refl _) (fun _ _ _ => trivial) rfl fun _ => ?_))))))))
     refine a_ (e_ rfl) rfl (d_ (b_ rfl (g_ (g_ (c_ (a_ (f_ rfl) rfl (E_ (au_ rfl rfl) rfl fun r5 hr5 => ?_)))))))
     refine d_ (b_ rfl ?_)
     cases r5
     ·
      replace hr5 := of_decide_eq_false hr5
      refine A_ rfl (J_ (b_ rfl (g_ (c_ (a_ (f_ rfl) rfl (a_ (f_ rfl) rfl (a_ (f_ rfl) rfl (a_ (f_ rfl) rfl (a_ (f_ rfl) rfl ?_)))))))))
      refine a_ (ch_ (ag_ rfl rfl rfl (aS_ (by omega) (by omega))) (show _ = Value.int .i64 (k : Int) by first | rfl | (congr 1; omega))) rfl (a_ (ch_ (dP_ (i := 0) (j := k) (kl := .i64) (kh := .i64) aa_ rfl rfl rfl (by omega) (by omega)) (show _ = str (r.take k) by simp)) rfl (a_ (gK_ aJ_ y_ rfl rfl (by omega) (by omega)) rfl (hT_ 0 y_ rfl rfl rfl (by simp [hk1]) rfl rfl (d_ (b_ rfl (g_ (c_ (a_ (f_ rfl) rfl (a_ (f_ rfl) rfl ?_)))))))))
      refine a_ (f_ rfl) rfl (a_ (cd_ aa_ rfl) rfl (a_ (ch_ (ag_ rfl rfl rfl (aS_ (by simp only [List.length_cons, List.length_nil]; omega) (by simp only [List.length_cons, List.length_nil]; omega))) (show _ = Value.int .i64 ((k + 1 : Nat) : Int) by first | rfl | (congr 1; omega))) rfl (a_ (ch_ (dP_ (i := k + 1) (j := r.length) (kl := .i64) (kh := .i64) aa_ rfl rfl rfl (by omega) (by omega)) (show _ = str (r.drop (k + 1)) by rw [List.take_of_length_le (by simp)])) rfl (a_ (e_ rfl) rfl (d_ (b_ rfl (c_ (a_ (f_ rfl) rfl (a_ (ch_ (ag_ rfl rfl rfl (aS_ (by omega) (by omega))) (show _ = Value.int .i64 ((i + 1 : Nat) : Int) by first | rfl | (congr 1; omega))) rfl ?_)))))))))
      refine a_ (e_ rfl) rfl (d_ (p_ rfl ?_))
      exact aU_ ⟨(i + 1, dn ++ [r.take k], r.drop (k + 1)), by simp [hk1], by rw [hk2, fx_ hix, List.append_assoc]; rfl, by dsimp only; omega, by simp; omega⟩ (by dsimp only; omega) ⟨rfl, rfl, rfl, rfl, rfl, rfl, trivial⟩ (F := []) (List.Perm.of_eq (by simp [show dh_ c s + 1 - (i + 1) = dh_ c s - i by omega])) (fun _ _ h => h)
     ·
      replace hr5 := of_decide_eq_true hr5
      exfalso; omega
  ·
   replace hr2 := eq_of_beq hr2
   cases hr2
 ·
  replace hr1 := eq_of_beq hr1
  exact absurd hr1 (by decide)
theorem mb_ (s : Str) (c : UInt8) (hs : s.length ≤ 17592186044414) : Tri Tryz.prog 156 #[str s, str [c]] [] [] (fun b : Nat => .slice (some ⟨b, 0, none⟩) (bs_ c s).length (bs_ c s).length) (fun _ => []) (fun b => [aY_ (some ⟨b, 0, none⟩) ((bs_ c s).flatMap dy_)]) := by
  refine S_ Tryz.func156 rfl rfl Tryz.ntmps156 rfl fun v0 => ?_
  refine g_ (c_ (a_ (e_ rfl) rfl (d_ (b_ rfl (g_ (c_ (a_ (f_ rfl) rfl (a_ (f_ rfl) rfl (K_ (lJ_ s c hs) rfl (.refl _) (fun _ _ _ => trivial) rfl fun b => ?_)))))))))
  refine a_ (e_ rfl) rfl (d_ (b_ rfl (u_ ?_)))
  exact Y_ Tryz.results156 b rfl (.refl _) (fun v _ h => ⟨h.1, trivial⟩)
end Go.Proofs.YtaffcjgphlhppaaGreatDoor
namespace Go.Proofs.YtaffcjgphlhppaaGreatDoor
open Go Go.Sx Go.Proofs
attribute [local irreducible] Code.wp wpList wpAnyH
open Go.Vs
theorem jT_ {g : FuncId} {pred : Str → Bool} (xs : List Str) (ad : Option Addr) (cap : Nat) (hlen : xs.length ≤ 17592186044415) (hT : ∀ x ∈ xs, Fn0 Tryz.prog g #[str x] (.bool (pred x))) :
    Tri Tryz.prog 186 #[.slice ad (List.length xs) cap, .func (.func g) #[] #[]] [] [aY_ ad (List.flatMap dy_ xs)] (fun r : {r : Int // decide (0 ≤ r) = xs.any pred} => .int .i64 r.1) (fun _ => []) (fun _ => []) := by
  refine S_ Tryz.func186 rfl rfl Tryz.ntmps186 rfl fun v0 => ?_
  refine g_ (c_ (a_ (e_ rfl) rfl (d_ (b_ rfl (g_ (g_ (c_ (a_ (f_ rfl) rfl (a_ (aA_ aJ_ rfl) rfl ?_)))))))))
  refine a_ (f_ rfl) rfl (d_ (b_ rfl (ae_ (de_ [(0, .slice ad (List.length xs) cap), (1, .func (.func g) #[] #[]), (7, .int .i64 (List.length xs : Int)), (8, .int .i64 ((0 : Nat) : Int))] ⟨rfl, rfl, rfl, rfl, trivial⟩ ?_))))
  refine dq_ (ι := {q : Nat // q ≤ xs.length ∧ (xs.take q).any pred = false}) (fun i => [(0, .slice ad (List.length xs) cap), (1, .func (.func g) #[] #[]), (7, .int .i64 (List.length xs : Int)), (8, .int .i64 (i.1 : Int))]) (fun _ => _) (fun _ => _) (fun i => xs.length - i.1) ⟨0, by simp⟩ ?_
  rintro ⟨i, hk⟩
  refine de_ [(0, .slice ad (List.length xs) cap), (1, .func (.func g) #[] #[]), (7, .int .i64 (List.length xs : Int)), (8, .int .i64 (i : Int))] ⟨rfl, rfl, rfl, rfl, trivial⟩ ?_
  refine g_ (c_ (E_ (au_ rfl rfl) rfl fun r1 hr1 => ?_))
  refine d_ (b_ rfl (g_ ?_))
  cases r1
  · skip
    replace hr1 := of_decide_eq_false hr1
    refine A_ rfl (bj_ rfl (b_ rfl (g_ (c_ (a_ (e_ rfl) rfl (d_ (b_ rfl (u_ ?_))))))))
    exact Y_ Tryz.results186 ⟨-1, by have := hk.2; rw [List.take_of_length_le (by omega)] at this; show _ = xs.any pred; rw [this]; rfl⟩ rfl (.refl _) (fun _ _ _ => trivial)
  · skip
    replace hr1 := of_decide_eq_true hr1
    have hlx1 : i < List.length xs := by omega
    obtain ⟨x1, hx1⟩ : ∃ e0, xs[i]? = some e0 := ⟨_, List.getElem?_eq_getElem hlx1⟩
    have hmx1 : x1 ∈ xs := List.mem_of_getElem? hx1
    refine w_ rfl (J_ (b_ rfl (g_ (ae_ (g_ (c_ (a_ (f_ rfl) rfl (a_ (e_ rfl) rfl (d_ ?_)))))))))
    refine b_ rfl (g_ (c_ (a_ (f_ rfl) rfl (a_ (f_ rfl) rfl (a_ (f_ rfl) rfl (a_ (an_ aJ_ y_ rfl rfl (fun v _ h => ba_ (n := 1) cs_ (by decide) (by exact h.1) hx1) (by omega) (by first | omega | (simp; done))) rfl (a_ (bE_ (ad := ad) H_ rfl (fun v _ h => by exact h.1) (ar_ cs_ hx1 0 _ rfl)) rfl (bW_ (hT x1 hmx1) rfl rfl x_ (fun _ _ _ => by exact trivial) rfl fun r2 hr2 => ?_))))))))
    refine d_ (b_ rfl ?_)
    cases r2
    · skip
      refine A_ rfl (J_ (b_ rfl (c_ (a_ (ag_ rfl rfl rfl (aS_ (by omega) (by omega))) rfl (a_ (f_ rfl) rfl (d_ (p_ rfl ?_)))))))
      exact aU_ ⟨i + 1, hlx1, by rw [List.take_add_one, hx1]; simp only [Option.toList_some, List.any_append, hk.2]; simp [*]⟩ (by simp; omega) ⟨rfl, rfl, rfl, rfl, trivial⟩ (.refl _) (fun _ _ h => h)
    · skip
      refine w_ rfl (g_ (c_ (a_ (f_ rfl) rfl (a_ (e_ rfl) rfl (d_ (b_ rfl (u_ ?_)))))))
      exact Y_ Tryz.results186 ⟨(i : Int), by show _ = xs.any pred; rw [show xs.any pred = true from List.any_eq_true.2 ⟨x1, hmx1, by assumption⟩]; exact decide_eq_true (by omega)⟩ rfl (.refl _) (fun _ _ _ => trivial)
theorem hq_ {g : FuncId} {pred : Str → Bool} (xs : List Str) (ad : Option Addr) (cap : Nat) (hlen : xs.length ≤ 17592186044415) (hT : ∀ x ∈ xs, Fn0 Tryz.prog g #[str x] (.bool (pred x))) :
    Tri Tryz.prog 157 #[.slice ad (List.length xs) cap, .func (.func g) #[] #[]] [] [aY_ ad (List.flatMap dy_ xs)] (fun _ : Unit => .bool (xs.any pred)) (fun _ => []) (fun _ => []) := by
  refine S_ Tryz.func157 rfl rfl Tryz.ntmps157 rfl fun v0 => ?_
  refine g_ (c_ (a_ (e_ rfl) rfl (d_ (b_ rfl (g_ (c_ (a_ (f_ rfl) rfl (a_ (f_ rfl) rfl (K_ (jT_ xs ad cap hlen hT) rfl x_ (fun v _ h => by exact ⟨h.1, trivial⟩) rfl fun x => ?_)))))))))
  refine E_ (cw_ rfl rfl) rfl fun r1 hr1 => ?_
  refine a_ (e_ rfl) rfl (d_ (b_ rfl (u_ ?_)))
  exact Y_ Tryz.results157 () (s_ rfl (hr1.symm.trans x.2)) (.refl _) (fun _ _ _ => trivial)
theorem na_ (s : Str) (hs : s.length ≤ 140737488351232) : Fn0 Tryz.prog 158 #[str s] (.bool (!bG_ s)) := by
  refine S_ Tryz.func158 rfl rfl Tryz.ntmps158 rfl fun v0 => ?_
  refine g_ (c_ (a_ (e_ rfl) rfl (d_ (b_ rfl (g_ (c_ (a_ (f_ rfl) rfl (ah_ (dA_ s hs) rfl x_ (fun _ _ _ => by exact trivial) rfl fun r1 hr1 => ?_))))))))
  refine a_ (bu_ rfl) rfl (a_ (e_ rfl) rfl (d_ (b_ rfl (u_ ?_))))
  exact Y_ Tryz.results158 () (s_ rfl (by simp [*])) (.refl _) (fun _ _ _ => trivial)
theorem eq_ {c : UInt8} : ∀ {s x : Str}, x ∈ bs_ c s → x.length ≤ s.length
  | [], x, h => by simp [bs_] at h; simp [h]
  | b :: s, x, h => by
    simp only [bs_] at h
    split at h
    · rcases List.mem_cons.1 h with rfl | h
      · simp
      · have := eq_ h; simp only [List.length_cons]; omega
    · cases hs : bs_ c s with
      | nil => exact absurd hs (iN_ c s)
      | cons y t =>
        rw [hs] at h
        rcases List.mem_cons.1 h with rfl | h
        · have := eq_ (c := c) (s := s) (x := y) (by rw [hs]; simp); simp only [List.length_cons]; omega
        · have := eq_ (c := c) (s := s) (x := x) (by rw [hs]; simp [h]); simp only [List.length_cons]; omega
theorem fC_ (s : Str) (hs : s.length ≤ 17592186044414) : Fn0 Tryz.prog 84 #[str s] (.bool (dd_ s)) := by
  refine S_ Tryz.func84 rfl rfl Tryz.ntmps84 rfl fun v0 => ?_
  have hsl := df_ 46 s
  have hcl := gG_ 46 s
  refine g_ (c_ (a_ (e_ rfl) rfl (d_ (b_ rfl (g_ (c_ (a_ (f_ rfl) rfl (K_ (mb_ s 46 hs) rfl x_ (fun _ _ _ => by exact trivial) rfl fun b => ?_))))))))
  refine a_ (e_ rfl) rfl (d_ (b_ rfl (g_ (c_ (a_ (f_ rfl) rfl (a_ (aA_ aJ_ rfl) rfl (E_ (cb_ rfl rfl) rfl fun r1 hr1 => ?_)))))))
  refine a_ (f_ rfl) rfl ?_
  cases r1
  · skip
    replace hr1 := of_decide_eq_false hr1
    refine k_ rfl rfl rfl rfl (k_ rfl rfl rfl rfl (k_ rfl rfl rfl rfl (a_ (t_ rfl rfl) rfl (a_ (e_ rfl) rfl (d_ (b_ rfl (u_ ?_)))))))
    exact Y_ Tryz.results84 () (s_ rfl (by unfold dd_; subst_vars; rw [Bool.eq_iff_iff]; simp_all <;> omega)) (.refl _) (fun _ _ _ => trivial)
  · skip
    replace hr1 := of_decide_eq_true hr1
    refine i_ rfl rfl (a_ (f_ rfl) rfl (i_ rfl rfl (ah_ (hq_ (pred := fun r => !bG_ r) (bs_ 46 s) _ _ (by omega) (fun x hx => na_ x (by have := eq_ hx; omega))) rfl x_ (fun v _ h => by exact ⟨h.1, trivial⟩) rfl fun r2 hr2 => ?_)))
    refine i_ rfl rfl (a_ (bu_ rfl) rfl (a_ (v_ rfl rfl) rfl (a_ (e_ rfl) rfl (d_ (b_ rfl (u_ ?_))))))
    exact Y_ Tryz.results84 () (s_ rfl (by unfold dd_; subst_vars; rw [Bool.eq_iff_iff]; simp_all <;> omega)) (.refl _) (fun _ _ _ => trivial)
theorem fa_ (s : Str) (hs : s.length ≤ 140737488351232) : Fn0 Tryz.prog 86 #[str s] (.bool (br_ s)) := by
 refine S_ Tryz.func86 rfl rfl Tryz.ntmps86 rfl fun v0 => ?_
 refine g_ (c_ (a_ (e_ rfl) rfl (d_ (b_ rfl (g_ (c_ (a_ (f_ rfl) rfl (a_ (cd_ aa_ rfl) rfl (a_ (e_ rfl) rfl ?_)))))))))
 refine d_ (b_ rfl (g_ (ae_ (g_ (c_ (a_ (f_ rfl) rfl (E_ (bo_ rfl rfl) rfl fun r1 hr1 => ?_)))))))
 refine a_ (f_ rfl) rfl ?_
 cases r1
 ·
  replace hr1 := ne_of_beq_false hr1
  refine i_ rfl rfl (a_ (f_ rfl) rfl (i_ rfl rfl (E_ (bo_ rfl rfl) rfl fun r2 hr2 => ?_)))
  refine a_ (t_ rfl rfl) rfl (a_ (e_ rfl) rfl (d_ (b_ rfl ?_)))
  cases r2
  ·
   replace hr2 := ne_of_beq_false hr2
   refine A_ rfl (g_ (c_ (a_ (f_ rfl) rfl (E_ (cw_ rfl rfl) rfl fun r3 hr3 => ?_))))
   refine a_ (f_ rfl) rfl ?_
   cases r3
   ·
    replace hr3 := of_decide_eq_false hr3
    refine k_ rfl rfl rfl rfl (k_ rfl rfl rfl rfl (k_ rfl rfl rfl rfl (a_ (t_ rfl rfl) rfl (a_ (f_ rfl) rfl (k_ rfl rfl rfl rfl (k_ rfl rfl rfl rfl (k_ rfl rfl rfl rfl (k_ rfl rfl rfl rfl (k_ rfl rfl rfl rfl ?_)))))))))
    refine a_ (t_ rfl rfl) rfl (a_ (e_ rfl) rfl (d_ (b_ rfl (A_ rfl (g_ (c_ (a_ (f_ rfl) rfl (E_ (cw_ rfl rfl) rfl fun r4 hr4 => ?_))))))))
    refine a_ (f_ rfl) rfl ?_
    cases r4
    ·
     replace hr4 := of_decide_eq_false hr4
     refine k_ rfl rfl rfl rfl (k_ rfl rfl rfl rfl (k_ rfl rfl rfl rfl (a_ (t_ rfl rfl) rfl (a_ (f_ rfl) rfl (k_ rfl rfl rfl rfl (k_ rfl rfl rfl rfl (k_ rfl rfl rfl rfl (k_ rfl rfl rfl rfl (k_ rfl rfl rfl rfl ?_)))))))))
     refine a_ (t_ rfl rfl) rfl (a_ (e_ rfl) rfl (d_ (b_ rfl (A_ rfl (J_ (b_ rfl (g_ (c_ (a_ (f_ rfl) rfl ?_)))))))))
     refine ah_ (dA_ _ (by first | exact hs | (simp; omega))) rfl x_ (fun _ _ _ => by exact trivial) rfl fun r5 hr5 => ?_
     refine a_ (e_ rfl) rfl (d_ (b_ rfl (u_ ?_)))
     exact Y_ cJ_ () (s_ rfl (by unfold br_; (repeat (any_goals split)) <;> first | rfl | (simp_all; done) | (exfalso; simp_all; omega) | (exfalso; simp_all; done))) (.refl _) (fun _ _ _ => trivial)
    ·
     replace hr4 := of_decide_eq_true hr4
     exfalso; omega
   ·
    replace hr3 := of_decide_eq_true hr3
    obtain ⟨c, hc⟩ : ∃ c, s[0]? = some c := ⟨_, List.getElem?_eq_getElem (by omega)⟩
    obtain ⟨e, he⟩ : ∃ e, s[s.length - 1]? = some e := ⟨_, List.getElem?_eq_getElem (by omega)⟩
    have hc123 : (s[0]? = some 123) ↔ ((c.toNat : Int) = 123) := by
              rw [hc]; simp only [Option.some.injEq]; exact ⟨fun q => by subst q; rfl, fun q => UInt8.toNat_inj.1 (by show c.toNat = 123; omega)⟩
    have he125 : (s[s.length - 1]? = some 125) ↔ ((e.toNat : Int) = 125) := by
              rw [he]; simp only [Option.some.injEq]; exact ⟨fun q => by subst q; rfl, fun q => UInt8.toNat_inj.1 (by show e.toNat = 125; omega)⟩
    have hc60 : (s[0]? = some 60) ↔ ((c.toNat : Int) = 60) := by
              rw [hc]; simp only [Option.some.injEq]; exact ⟨fun q => by subst q; rfl, fun q => UInt8.toNat_inj.1 (by show c.toNat = 60; omega)⟩
    have he62 : (s[s.length - 1]? = some 62) ↔ ((e.toNat : Int) = 62) := by
              rw [he]; simp only [Option.some.injEq]; exact ⟨fun q => by subst q; rfl, fun q => UInt8.toNat_inj.1 (by show e.toNat = 62; omega)⟩
    refine i_ rfl rfl (a_ (f_ rfl) rfl (i_ rfl rfl (a_ (ck_ aa_ rfl rfl (by decide) hc) rfl (i_ rfl rfl (E_ (aG_ rfl rfl) rfl fun r6 hr6 => ?_)))))
    refine a_ (v_ rfl rfl) rfl (a_ (f_ rfl) rfl ?_)
    cases r6
    ·
     replace hr6 := ne_of_beq_false hr6
     refine k_ rfl rfl rfl rfl (k_ rfl rfl rfl rfl (k_ rfl rfl rfl rfl (k_ rfl rfl rfl rfl (k_ rfl rfl rfl rfl (a_ (t_ rfl rfl) rfl (a_ (e_ rfl) rfl (d_ (b_ rfl (A_ rfl ?_)))))))))
     refine g_ (c_ (a_ (f_ rfl) rfl (E_ (cw_ rfl rfl) rfl fun r7 hr7 => ?_)))
     refine a_ (f_ rfl) rfl ?_
     cases r7
     ·
      replace hr7 := of_decide_eq_false hr7
      refine k_ rfl rfl rfl rfl (k_ rfl rfl rfl rfl (k_ rfl rfl rfl rfl (a_ (t_ rfl rfl) rfl (a_ (f_ rfl) rfl (k_ rfl rfl rfl rfl (k_ rfl rfl rfl rfl (k_ rfl rfl rfl rfl (k_ rfl rfl rfl rfl (k_ rfl rfl rfl rfl ?_)))))))))
      refine a_ (t_ rfl rfl) rfl (a_ (e_ rfl) rfl (d_ (b_ rfl (A_ rfl (J_ (b_ rfl (g_ (c_ (a_ (f_ rfl) rfl ?_)))))))))
      refine ah_ (dA_ _ (by first | exact hs | (simp; omega))) rfl x_ (fun _ _ _ => by exact trivial) rfl fun r8 hr8 => ?_
      refine a_ (e_ rfl) rfl (d_ (b_ rfl (u_ ?_)))
      exact Y_ cJ_ () (s_ rfl (by unfold br_; (repeat (any_goals split)) <;> first | rfl | (simp_all; done) | (exfalso; simp_all; omega) | (exfalso; simp_all; done))) (.refl _) (fun _ _ _ => trivial)
     ·
      replace hr7 := of_decide_eq_true hr7
      refine i_ rfl rfl (a_ (f_ rfl) rfl (i_ rfl rfl (a_ (ck_ aa_ rfl rfl (by decide) hc) rfl (i_ rfl rfl (E_ (aG_ rfl rfl) rfl fun r9 hr9 => ?_)))))
      refine a_ (v_ rfl rfl) rfl (a_ (f_ rfl) rfl ?_)
      cases r9
      ·
       replace hr9 := ne_of_beq_false hr9
       refine k_ rfl rfl rfl rfl (k_ rfl rfl rfl rfl (k_ rfl rfl rfl rfl (k_ rfl rfl rfl rfl (k_ rfl rfl rfl rfl (a_ (t_ rfl rfl) rfl (a_ (e_ rfl) rfl (d_ (b_ rfl (A_ rfl ?_)))))))))
       refine J_ (b_ rfl (g_ (c_ (a_ (f_ rfl) rfl (ah_ (dA_ _ (by first | exact hs | (simp; omega))) rfl x_ (fun _ _ _ => by exact trivial) rfl fun r10 hr10 => ?_)))))
       refine a_ (e_ rfl) rfl (d_ (b_ rfl (u_ ?_)))
       exact Y_ cJ_ () (s_ rfl (by unfold br_; (repeat (any_goals split)) <;> first | rfl | (simp_all; done) | (exfalso; simp_all; omega) | (exfalso; simp_all; done))) (.refl _) (fun _ _ _ => trivial)
      ·
       replace hr9 := eq_of_beq hr9
       refine i_ rfl rfl (a_ (f_ rfl) rfl (i_ rfl rfl (a_ (f_ rfl) rfl (i_ rfl rfl (a_ (ag_ rfl rfl rfl (aS_ (by omega) (by omega))) rfl (i_ rfl rfl (a_ (ck_ aa_ rfl rfl (by omega) (show s[((s.length : Int) - 1).toNat]? = some e by rw [show ((s.length : Int) - 1).toNat = s.length - 1 by omega]; exact he)) rfl (i_ rfl rfl (E_ (aG_ rfl rfl) rfl fun r11 hr11 => ?_)))))))))
       refine a_ (v_ rfl rfl) rfl (a_ (e_ rfl) rfl (d_ (b_ rfl ?_)))
       cases r11
       ·
        replace hr11 := ne_of_beq_false hr11
        refine A_ rfl (J_ (b_ rfl (g_ (c_ (a_ (f_ rfl) rfl (ah_ (dA_ _ (by first | exact hs | (simp; omega))) rfl x_ (fun _ _ _ => by exact trivial) rfl fun r12 hr12 => ?_))))))
        refine a_ (e_ rfl) rfl (d_ (b_ rfl (u_ ?_)))
        exact Y_ cJ_ () (s_ rfl (by unfold br_; (repeat (any_goals split)) <;> first | rfl | (simp_all; done) | (exfalso; simp_all; omega) | (exfalso; simp_all; done))) (.refl _) (fun _ _ _ => trivial)
       ·
        replace hr11 := eq_of_beq hr11
        refine w_ rfl (g_ (c_ (a_ (e_ rfl) rfl (d_ (b_ rfl (u_ ?_))))))
        exact Y_ cJ_ () (s_ rfl (by unfold br_; (repeat (any_goals split)) <;> first | rfl | (simp_all; done) | (exfalso; simp_all; omega) | (exfalso; simp_all; done))) (.refl _) (fun _ _ _ => trivial)
    ·
     replace hr6 := eq_of_beq hr6
     refine i_ rfl rfl (a_ (f_ rfl) rfl (i_ rfl rfl (a_ (f_ rfl) rfl (i_ rfl rfl (a_ (ag_ rfl rfl rfl (aS_ (by omega) (by omega))) rfl (i_ rfl rfl (a_ (ck_ aa_ rfl rfl (by omega) (show s[((s.length : Int) - 1).toNat]? = some e by rw [show ((s.length : Int) - 1).toNat = s.length - 1 by omega]; exact he)) rfl (i_ rfl rfl (E_ (aG_ rfl rfl) rfl fun r13 hr13 => ?_)))))))))
     refine a_ (v_ rfl rfl) rfl (a_ (e_ rfl) rfl (d_ (b_ rfl ?_)))
     cases r13
     ·
      replace hr13 := ne_of_beq_false hr13
      refine A_ rfl (g_ (c_ (a_ (f_ rfl) rfl (E_ (cw_ rfl rfl) rfl fun r14 hr14 => ?_))))
      refine a_ (f_ rfl) rfl ?_
      cases r14
      ·
       replace hr14 := of_decide_eq_false hr14
       refine k_ rfl rfl rfl rfl (k_ rfl rfl rfl rfl (k_ rfl rfl rfl rfl (a_ (t_ rfl rfl) rfl (a_ (f_ rfl) rfl (k_ rfl rfl rfl rfl (k_ rfl rfl rfl rfl (k_ rfl rfl rfl rfl (k_ rfl rfl rfl rfl (k_ rfl rfl rfl rfl ?_)))))))))
       refine a_ (t_ rfl rfl) rfl (a_ (e_ rfl) rfl (d_ (b_ rfl (A_ rfl (J_ (b_ rfl (g_ (c_ (a_ (f_ rfl) rfl ?_)))))))))
       refine ah_ (dA_ _ (by first | exact hs | (simp; omega))) rfl x_ (fun _ _ _ => by exact trivial) rfl fun r15 hr15 => ?_
       refine a_ (e_ rfl) rfl (d_ (b_ rfl (u_ ?_)))
       exact Y_ cJ_ () (s_ rfl (by unfold br_; (repeat (any_goals split)) <;> first | rfl | (simp_all; done) | (exfalso; simp_all; omega) | (exfalso; simp_all; done))) (.refl _) (fun _ _ _ => trivial)
      ·
       replace hr14 := of_decide_eq_true hr14
       refine i_ rfl rfl (a_ (f_ rfl) rfl (i_ rfl rfl (a_ (ck_ aa_ rfl rfl (by decide) hc) rfl (i_ rfl rfl (E_ (aG_ rfl rfl) rfl fun r16 hr16 => ?_)))))
       refine a_ (v_ rfl rfl) rfl (a_ (f_ rfl) rfl ?_)
       cases r16
       ·
        replace hr16 := ne_of_beq_false hr16
        refine k_ rfl rfl rfl rfl (k_ rfl rfl rfl rfl (k_ rfl rfl rfl rfl (k_ rfl rfl rfl rfl (k_ rfl rfl rfl rfl (a_ (t_ rfl rfl) rfl (a_ (e_ rfl) rfl (d_ (b_ rfl (A_ rfl ?_)))))))))
        refine J_ (b_ rfl (g_ (c_ (a_ (f_ rfl) rfl (ah_ (dA_ _ (by first | exact hs | (simp; omega))) rfl x_ (fun _ _ _ => by exact trivial) rfl fun r17 hr17 => ?_)))))
        refine a_ (e_ rfl) rfl (d_ (b_ rfl (u_ ?_)))
        exact Y_ cJ_ () (s_ rfl (by unfold br_; (repeat (any_goals split)) <;> first | rfl | (simp_all; done) | (exfalso; simp_all; omega) | (exfalso; simp_all; done))) (.refl _) (fun _ _ _ => trivial)
       ·
        replace hr16 := eq_of_beq hr16
        refine i_ rfl rfl (a_ (f_ rfl) rfl (i_ rfl rfl (a_ (f_ rfl) rfl (i_ rfl rfl (a_ (ag_ rfl rfl rfl (aS_ (by omega) (by omega))) rfl (i_ rfl rfl (a_ (ck_ aa_ rfl rfl (by omega) (show s[((s.length : Int) - 1).toNat]? = some e by rw [show ((s.length : Int) - 1).toNat = s.length - 1 by omega]; exact he)) rfl (i_ rfl rfl (E_ (aG_ rfl rfl) rfl fun r18 hr18 => ?_)))))))))
        refine a_ (v_ rfl rfl) rfl (a_ (e_ rfl) rfl (d_ (b_ rfl ?_)))
        cases r18
        ·
         replace hr18 := ne_of_beq_false hr18
         refine A_ rfl (J_ (b_ rfl (g_ (c_ (a_ (f_ rfl) rfl (ah_ (dA_ _ (by first | exact hs | (simp; omega))) rfl x_ (fun _ _ _ => by exact trivial) rfl fun r19 hr19 => ?_))))))
         refine a_ (e_ rfl) rfl (d_ (b_ rfl (u_ ?_)))
         exact Y_ cJ_ () (s_ rfl (by unfold br_; (repeat (any_goals split)) <;> first | rfl | (simp_all; done) | (exfalso; simp_all; omega) | (exfalso; simp_all; done))) (.refl _) (fun _ _ _ => trivial)
        ·
         replace hr18 := eq_of_beq hr18
         refine w_ rfl (g_ (c_ (a_ (e_ rfl) rfl (d_ (b_ rfl (u_ ?_))))))
         exact Y_ cJ_ () (s_ rfl (by unfold br_; (repeat (any_goals split)) <;> first | rfl | (simp_all; done) | (exfalso; simp_all; omega) | (exfalso; simp_all; done))) (.refl _) (fun _ _ _ => trivial)
     ·
      replace hr13 := eq_of_beq hr13
      refine w_ rfl (g_ (c_ (a_ (f_ rfl) rfl (a_ (f_ rfl) rfl (a_ (ag_ rfl rfl rfl (aS_ (by omega) (by omega))) rfl (a_ (dP_ (i := 1) (j := s.length - 1) (kl := .i64) (kh := .i64) aa_ rfl rfl (show _ = some (Value.int .i64 ((s.length - 1 : Nat) : Int)) by rw [show ((s.length - 1 : Nat) : Int) = (s.length : Int) - 1 by omega]; rfl) (by omega) (by omega)) rfl (ah_ (dA_ _ (by first | exact hs | (simp; omega))) rfl x_ (fun _ _ _ => by exact trivial) rfl fun r20 hr20 => ?_)))))))
      refine a_ (e_ rfl) rfl (d_ (b_ rfl (u_ ?_)))
      exact Y_ cJ_ () (s_ rfl (by unfold br_; (repeat (any_goals split)) <;> first | rfl | (simp_all; done) | (exfalso; simp_all; omega) | (exfalso; simp_all; done))) (.refl _) (fun _ _ _ => trivial)
  ·
   replace hr2 := eq_of_beq hr2
   refine w_ rfl (g_ (c_ (a_ (e_ rfl) rfl (d_ (b_ rfl (u_ ?_))))))
   exact Y_ cJ_ () (s_ rfl (by unfold br_; (repeat (any_goals split)) <;> first | rfl | (simp_all; done) | (exfalso; simp_all; omega) | (exfalso; simp_all; done))) (.refl _) (fun _ _ _ => trivial)
 ·
  replace hr1 := eq_of_beq hr1
  refine k_ rfl rfl rfl rfl (k_ rfl rfl rfl rfl (a_ (v_ rfl rfl) rfl (a_ (e_ rfl) rfl (d_ (b_ rfl (w_ rfl (g_ (c_ (a_ (e_ rfl) rfl ?_)))))))))
  refine d_ (b_ rfl (u_ ?_))
  exact Y_ cJ_ () (s_ rfl (by unfold br_; (repeat (any_goals split)) <;> first | rfl | (simp_all; done) | (exfalso; simp_all; omega) | (exfalso; simp_all; done))) (.refl _) (fun _ _ _ => trivial)
end Go.Proofs.YtaffcjgphlhppaaGreatDoor
namespace Go.Proofs.YtaffcjgphlhppaaGreatDoor
open Go Go.Sx Go.Proofs
attribute [local irreducible] Code.wp wpList wpAnyH
open Go.Vs
theorem dD_ {g : FuncId} (used : Bool) (s : Str) (q : Str → Bool) (hT : Fn0 Tryz.prog g #[str s] (.bool (q s))) : Fn0 Tryz.prog 83 #[.bool used, str s, .func (.func g) #[] #[]] (.bool (cC_ used s q)) := by
  refine S_ Tryz.func83 rfl rfl Tryz.ntmps83 rfl fun v0 => ?_
  refine g_ (c_ (a_ (e_ rfl) rfl (d_ (b_ rfl (g_ (c_ (a_ (f_ rfl) rfl (a_ (f_ rfl) rfl ?_))))))))
  cases used
  · skip
    refine k_ rfl rfl rfl rfl (k_ rfl rfl rfl rfl (k_ rfl rfl rfl rfl (a_ (t_ rfl rfl) rfl (a_ (f_ rfl) rfl (i_ rfl rfl (a_ (f_ rfl) rfl (i_ rfl rfl (a_ (bu_ rfl) rfl (i_ rfl rfl ?_)))))))))
    refine a_ (f_ rfl) rfl (i_ rfl rfl (a_ (f_ rfl) rfl (i_ rfl rfl (E_ (bo_ rfl rfl) rfl fun r1 hr1 => ?_))))
    refine i_ rfl rfl (a_ (v_ rfl rfl) rfl (a_ (t_ rfl rfl) rfl (a_ (e_ rfl) rfl (d_ (b_ rfl (u_ ?_))))))
    exact Y_ Tryz.results83 () (s_ rfl (by unfold cC_; subst_vars; rw [Bool.eq_iff_iff]; simp_all)) (.refl _) (fun _ _ _ => trivial)
  · skip
    refine i_ rfl rfl (a_ (f_ rfl) rfl (i_ rfl rfl (a_ (f_ rfl) rfl (i_ rfl rfl (bW_ (hT) rfl rfl x_ (fun _ _ _ => by exact trivial) rfl fun r2 hr2 => ?_)))))
    refine a_ (v_ rfl rfl) rfl (a_ (f_ rfl) rfl ?_)
    cases r2
    · skip
      refine i_ rfl rfl (a_ (f_ rfl) rfl (i_ rfl rfl (a_ (bu_ rfl) rfl (i_ rfl rfl (a_ (f_ rfl) rfl (k_ rfl rfl rfl rfl (k_ rfl rfl rfl rfl (i_ rfl rfl (a_ (t_ rfl rfl) rfl ?_)))))))))
      refine a_ (t_ rfl rfl) rfl (a_ (e_ rfl) rfl (d_ (b_ rfl (u_ ?_))))
      exact Y_ Tryz.results83 () (s_ rfl (by unfold cC_; subst_vars; rw [Bool.eq_iff_iff]; simp_all)) (.refl _) (fun _ _ _ => trivial)
    · skip
      refine k_ rfl rfl rfl rfl (k_ rfl rfl rfl rfl (k_ rfl rfl rfl rfl (k_ rfl rfl rfl rfl (k_ rfl rfl rfl rfl (k_ rfl rfl rfl rfl (a_ (v_ rfl rfl) rfl (a_ (e_ rfl) rfl (d_ (b_ rfl ?_)))))))))
      refine u_ ?_
      exact Y_ Tryz.results83 () (s_ rfl (by unfold cC_; subst_vars; rw [Bool.eq_iff_iff]; simp_all)) (.refl _) (fun _ _ _ => trivial)
theorem mZ_ (p : Pc) (hp : p.sm) : Tri Tryz.prog 35 #[Pc.val p] [] [jx_] (fun _ : Unit => .bool p.valid) (fun _ => []) (fun _ => []) := by
 refine S_ Tryz.func35 rfl rfl Tryz.ntmps35 rfl fun v0 => ?_
 obtain ⟨ha, hb, hc, hr, hs, ht⟩ := hp
 refine g_ (c_ (aM_ rfl rfl fun b1 => ?_))
 refine a_ (e_ rfl) rfl (d_ (b_ rfl (g_ (g_ (c_ (a_ (h_ R_ rfl rfl rfl q_) rfl (a_ (n_ 0 B_ rfl rfl rfl) rfl (E_ (au_ rfl rfl) rfl fun r1 hr1 => ?_))))))))
 refine a_ (f_ rfl) rfl ?_
 refine aV_ 4 ((decide ((Pc.kind p) < 1)) || (decide (9 < (Pc.kind p)))) (fun r => [(1, zp_ b1 0), (2, .bool false), (13, .bool r)]) ?_ fun r2 hr2 => ?_
 ·
  cases r1
  ·
   have qr2 := hr1
   replace hr1 := of_decide_eq_false hr1
   refine i_ rfl rfl (a_ (h_ R_ rfl rfl rfl q_) rfl (i_ rfl rfl (a_ (n_ 0 B_ rfl rfl rfl) rfl (i_ rfl rfl (E_ (bp_ rfl rfl) rfl fun r3 hr3 => ?_)))))
   refine a_ (t_ rfl rfl) rfl (d_ (p_ rfl ?_))
   exact met ⟨rfl, rfl, (s_ rfl (jof qr2 hr3)), trivial⟩
  ·
   have qr2 := hr1
   replace hr1 := of_decide_eq_true hr1
   refine k_ rfl rfl rfl rfl (k_ rfl rfl rfl rfl (k_ rfl rfl rfl rfl (a_ (v_ rfl rfl) rfl (d_ (p_ rfl ?_)))))
   exact met ⟨rfl, rfl, (s_ rfl (jot qr2)), trivial⟩
 ·
  refine a_ (f_ rfl) rfl ?_
  refine aV_ 4 ((((decide ((Pc.kind p) < 1)) || (decide (9 < (Pc.kind p))))) || (decide ((Pc.frm p) < (-1)))) (fun r => [(1, zp_ b1 0), (2, .bool false), (18, .bool r)]) ?_ fun r4 hr4 => ?_
  ·
   cases r2
   ·
    have qr4 := hr2
    simp at hr2
    refine i_ rfl rfl (a_ (h_ R_ rfl rfl rfl q_) rfl (i_ rfl rfl (a_ (n_ 0 B_ rfl rfl rfl) rfl (i_ rfl rfl (E_ (au_ rfl rfl) rfl fun r5 hr5 => ?_)))))
    refine a_ (t_ rfl rfl) rfl (d_ (p_ rfl ?_))
    exact met ⟨rfl, rfl, (s_ rfl (jof qr4 hr5)), trivial⟩
   ·
    have qr4 := hr2
    simp at hr2
    refine k_ rfl rfl rfl rfl (k_ rfl rfl rfl rfl (k_ rfl rfl rfl rfl (a_ (v_ rfl rfl) rfl (d_ (p_ rfl ?_)))))
    exact met ⟨rfl, rfl, (s_ rfl (jot qr4)), trivial⟩
  ·
   refine a_ (f_ rfl) rfl ?_
   refine aV_ 4 ((((((decide ((Pc.kind p) < 1)) || (decide (9 < (Pc.kind p))))) || (decide ((Pc.frm p) < (-1))))) || (decide (1024 ≤ (Pc.frm p)))) (fun r => [(1, zp_ b1 0), (2, .bool false), (23, .bool r)]) ?_ fun r6 hr6 => ?_
   ·
    cases r4
    ·
     have qr6 := hr4
     simp at hr4
     refine i_ rfl rfl (a_ (h_ R_ rfl rfl rfl q_) rfl (i_ rfl rfl (a_ (n_ 0 B_ rfl rfl rfl) rfl (i_ rfl rfl (E_ (cw_ rfl rfl) rfl fun r7 hr7 => ?_)))))
     refine a_ (t_ rfl rfl) rfl (d_ (p_ rfl ?_))
     exact met ⟨rfl, rfl, (s_ rfl (jof qr6 hr7)), trivial⟩
    ·
     have qr6 := hr4
     simp at hr4
     refine k_ rfl rfl rfl rfl (k_ rfl rfl rfl rfl (k_ rfl rfl rfl rfl (a_ (v_ rfl rfl) rfl (d_ (p_ rfl ?_)))))
     exact met ⟨rfl, rfl, (s_ rfl (jot qr6)), trivial⟩
   ·
    refine d_ (b_ rfl ?_)
    cases r6
    ·
     simp at hr6
     obtain ⟨u, hx⟩ : ∃ u, mh_[p.kind.toNat]? = some u := ⟨_, List.getElem?_eq_getElem (show p.kind.toNat < 10 by omega)⟩
     have hus : nus p.kind = u := by simp [nus, hx]
     obtain ⟨ua, ub, uc, ur, us, ut, un⟩ := u
     refine A_ rfl (J_ (b_ rfl (g_ (c_ (a_ (h_ R_ rfl rfl rfl q_) rfl (a_ (n_ 0 B_ rfl rfl rfl) rfl (a_ (ep_ Tryz.runUnderlying151 Tryz.sizeOf150 rfl rfl (by show (0 : Int) ≤ (Pc.kind p); omega) (by show (Pc.kind p) < (10 : Int); omega)) rfl (a_ (aX_ (ad := some ⟨1, 0, none⟩) (us := NUse.cells ⟨ua, ub, uc, ur, us, ut, un⟩) Tryz.isAgg150 Tryz.sizeOf150 rfl (fun v _ h => h.1) (NUse.cells_len _) (ar_ NUse.cells_len hx)) rfl (Z_ Tryz.zeroValue150 rfl fun b2 => ?_)))))))))
     refine Q_ 0 Tryz.sizeOf150 rfl rfl rfl rfl rfl rfl (d_ (b_ rfl (g_ (c_ (a_ (e_ rfl) rfl (d_ (b_ rfl (g_ (c_ ?_)))))))))
     refine a_ (e_ rfl) rfl (d_ (b_ rfl (g_ (g_ (c_ (a_ (h_ bA_ rfl rfl rfl aI_) rfl (a_ (n_ 0 bg_ rfl rfl rfl) rfl (d_ (b_ rfl ?_)))))))))
     cases un
     ·
      refine A_ rfl (g_ (c_ (a_ (h_ R_ rfl rfl rfl q_) rfl (a_ (n_ 1 B_ rfl rfl rfl) rfl (E_ (bF_ rfl rfl) rfl fun r8 hr8 => ?_)))))
      refine a_ (f_ rfl) rfl ?_
      refine aV_ 4 (((Pc.lo p) != 0) || ((Pc.hi p) != 0)) (fun r => [(1, zp_ b1 0), (2, .bool false), (3, zp_ b2 0), (4, .func (.func 83) #[] #[]), (5, .func (.func 84) #[] #[]), (52, .bool r)]) ?_ fun r9 hr9 => ?_
      ·
       cases r8
       ·
        have qr9 := hr8
        replace hr8 := bw_ hr8
        refine i_ rfl rfl (a_ (h_ R_ rfl rfl rfl q_) rfl (i_ rfl rfl (a_ (n_ 1 B_ rfl rfl rfl) rfl (i_ rfl rfl (E_ (bF_ rfl rfl) rfl fun r10 hr10 => ?_)))))
        refine a_ (t_ rfl rfl) rfl (d_ (p_ rfl ?_))
        exact met ⟨rfl, rfl, rfl, rfl, rfl, (s_ rfl (jof qr9 hr10)), trivial⟩
       ·
        have qr9 := hr8
        replace hr8 := bv_ hr8
        refine k_ rfl rfl rfl rfl (k_ rfl rfl rfl rfl (k_ rfl rfl rfl rfl (a_ (v_ rfl rfl) rfl (d_ (p_ rfl ?_)))))
        exact met ⟨rfl, rfl, rfl, rfl, rfl, (s_ rfl (jot qr9)), trivial⟩
      ·
       refine d_ (b_ rfl ?_)
       cases r9
       ·
        simp at hr9
        refine A_ rfl (J_ (b_ rfl (g_ (c_ (a_ (f_ rfl) rfl (a_ (h_ bA_ rfl rfl rfl aI_) rfl (a_ (n_ 0 bg_ rfl rfl rfl) rfl (a_ (h_ R_ rfl rfl rfl y_) rfl (a_ (n_ 1 H_ rfl rfl rfl) rfl ?_)))))))))
        refine bW_ (dD_ ua (Pc.a p) br_ (fa_ _ (by omega))) rfl rfl x_ (fun _ _ _ => by exact trivial) rfl fun r11 hr11 => ?_
        refine a_ (f_ rfl) rfl ?_
        refine aV_ 7 ((cC_ ua (Pc.a p) br_) && (cC_ ub (Pc.b p) br_)) (fun r => [(1, zp_ b1 0), (2, .bool false), (3, zp_ b2 0), (4, .func (.func 83) #[] #[]), (5, .func (.func 84) #[] #[]), (66, .bool r)]) ?_ fun r12 hr12 => ?_
        ·
         cases r11
         ·
          have qr12 := hr11
          refine k_ rfl rfl rfl rfl (k_ rfl rfl rfl rfl (k_ rfl rfl rfl rfl (k_ rfl rfl rfl rfl (k_ rfl rfl rfl rfl (k_ rfl rfl rfl rfl (a_ (t_ rfl rfl) rfl (d_ (p_ rfl ?_))))))))
          exact met ⟨rfl, rfl, rfl, rfl, rfl, (s_ rfl (jaf qr12)), trivial⟩
         ·
          have qr12 := hr11
          refine i_ rfl rfl (a_ (f_ rfl) rfl (i_ rfl rfl (a_ (h_ bA_ rfl rfl rfl aI_) rfl (i_ rfl rfl (a_ (n_ 0 bg_ rfl rfl rfl) rfl (i_ rfl rfl (a_ (h_ R_ rfl rfl rfl y_) rfl (i_ rfl rfl (a_ (n_ 1 H_ rfl rfl rfl) rfl ?_)))))))))
          refine i_ rfl rfl (bW_ (dD_ ub (Pc.b p) br_ (fa_ _ (by omega))) rfl rfl x_ (fun _ _ _ => by exact trivial) rfl fun r13 hr13 => ?_)
          refine a_ (v_ rfl rfl) rfl (d_ (p_ rfl ?_))
          exact met ⟨rfl, rfl, rfl, rfl, rfl, (s_ rfl (jat qr12 hr13)), trivial⟩
        ·
         refine a_ (f_ rfl) rfl ?_
         refine aV_ 7 ((((cC_ ua (Pc.a p) br_) && (cC_ ub (Pc.b p) br_))) && (cC_ uc (Pc.c p) br_)) (fun r => [(1, zp_ b1 0), (2, .bool false), (3, zp_ b2 0), (4, .func (.func 83) #[] #[]), (5, .func (.func 84) #[] #[]), (74, .bool r)]) ?_ fun r14 hr14 => ?_
         ·
          cases r12
          ·
           have qr14 := hr12
           simp at hr12
           refine k_ rfl rfl rfl rfl (k_ rfl rfl rfl rfl (k_ rfl rfl rfl rfl (k_ rfl rfl rfl rfl (k_ rfl rfl rfl rfl (k_ rfl rfl rfl rfl (a_ (t_ rfl rfl) rfl (d_ (p_ rfl ?_))))))))
           exact met ⟨rfl, rfl, rfl, rfl, rfl, (s_ rfl (jaf qr14)), trivial⟩
          ·
           have qr14 := hr12
           simp at hr12
           refine i_ rfl rfl (a_ (f_ rfl) rfl (i_ rfl rfl (a_ (h_ bA_ rfl rfl rfl aI_) rfl (i_ rfl rfl (a_ (n_ 0 bg_ rfl rfl rfl) rfl (i_ rfl rfl (a_ (h_ R_ rfl rfl rfl y_) rfl (i_ rfl rfl (a_ (n_ 1 H_ rfl rfl rfl) rfl ?_)))))))))
           refine i_ rfl rfl (bW_ (dD_ uc (Pc.c p) br_ (fa_ _ (by omega))) rfl rfl x_ (fun _ _ _ => by exact trivial) rfl fun r15 hr15 => ?_)
           refine a_ (v_ rfl rfl) rfl (d_ (p_ rfl ?_))
           exact met ⟨rfl, rfl, rfl, rfl, rfl, (s_ rfl (jat qr14 hr15)), trivial⟩
         ·
          refine a_ (f_ rfl) rfl ?_
          refine aV_ 8 ((((((cC_ ua (Pc.a p) br_) && (cC_ ub (Pc.b p) br_))) && (cC_ uc (Pc.c p) br_))) && (cC_ ur (Pc.r p) dd_)) (fun r => [(1, zp_ b1 0), (2, .bool false), (3, zp_ b2 0), (4, .func (.func 83) #[] #[]), (83, .bool r)]) ?_ fun r16 hr16 => ?_
          ·
           cases r14
           ·
            have qr16 := hr14
            simp at hr14
            refine k_ rfl rfl rfl rfl (k_ rfl rfl rfl rfl (k_ rfl rfl rfl rfl (k_ rfl rfl rfl rfl (k_ rfl rfl rfl rfl (k_ rfl rfl rfl rfl (k_ rfl rfl rfl rfl (a_ (t_ rfl rfl) rfl (d_ (p_ rfl ?_)))))))))
            exact met ⟨rfl, rfl, rfl, rfl, (s_ rfl (jaf qr16)), trivial⟩
           ·
            have qr16 := hr14
            simp at hr14
            refine i_ rfl rfl (a_ (f_ rfl) rfl (i_ rfl rfl (a_ (h_ bA_ rfl rfl rfl aI_) rfl (i_ rfl rfl (a_ (n_ 0 bg_ rfl rfl rfl) rfl (i_ rfl rfl (a_ (h_ R_ rfl rfl rfl y_) rfl (i_ rfl rfl (a_ (n_ 1 H_ rfl rfl rfl) rfl ?_)))))))))
            refine i_ rfl rfl (a_ (f_ rfl) rfl (i_ rfl rfl (bW_ (dD_ ur (Pc.r p) dd_ (fC_ _ (by omega))) rfl rfl x_ (fun _ _ _ => by exact trivial) rfl fun r17 hr17 => ?_)))
            refine a_ (v_ rfl rfl) rfl (d_ (p_ rfl ?_))
            exact met ⟨rfl, rfl, rfl, rfl, (s_ rfl (jat qr16 hr17)), trivial⟩
          ·
           refine a_ (f_ rfl) rfl ?_
           refine aV_ 7 ((((((((cC_ ua (Pc.a p) br_) && (cC_ ub (Pc.b p) br_))) && (cC_ uc (Pc.c p) br_))) && (cC_ ur (Pc.r p) dd_))) && (cC_ us (Pc.s p) dd_)) (fun r => [(1, zp_ b1 0), (2, .bool false), (3, zp_ b2 0), (4, .func (.func 83) #[] #[]), (91, .bool r)]) ?_ fun r18 hr18 => ?_
           ·
            cases r16
            ·
             have qr18 := hr16
             simp at hr16
             refine k_ rfl rfl rfl rfl (k_ rfl rfl rfl rfl (k_ rfl rfl rfl rfl (k_ rfl rfl rfl rfl (k_ rfl rfl rfl rfl (k_ rfl rfl rfl rfl (a_ (t_ rfl rfl) rfl (d_ (p_ rfl ?_))))))))
             exact met ⟨rfl, rfl, rfl, rfl, (s_ rfl (jaf qr18)), trivial⟩
            ·
             have qr18 := hr16
             simp at hr16
             refine i_ rfl rfl (a_ (f_ rfl) rfl (i_ rfl rfl (a_ (h_ bA_ rfl rfl rfl aI_) rfl (i_ rfl rfl (a_ (n_ 0 bg_ rfl rfl rfl) rfl (i_ rfl rfl (a_ (h_ R_ rfl rfl rfl y_) rfl (i_ rfl rfl (a_ (n_ 1 H_ rfl rfl rfl) rfl ?_)))))))))
             refine i_ rfl rfl (bW_ (dD_ us (Pc.s p) dd_ (fC_ _ (by omega))) rfl rfl x_ (fun _ _ _ => by exact trivial) rfl fun r19 hr19 => ?_)
             refine a_ (v_ rfl rfl) rfl (d_ (p_ rfl ?_))
             exact met ⟨rfl, rfl, rfl, rfl, (s_ rfl (jat qr18 hr19)), trivial⟩
           ·
            refine a_ (f_ rfl) rfl ?_
            refine aV_ 7 ((((((((((cC_ ua (Pc.a p) br_) && (cC_ ub (Pc.b p) br_))) && (cC_ uc (Pc.c p) br_))) && (cC_ ur (Pc.r p) dd_))) && (cC_ us (Pc.s p) dd_))) && (cC_ ut (Pc.t p) dd_)) (fun r => [(2, .bool false), (99, .bool r)]) ?_ fun r20 hr20 => ?_
            ·
             cases r18
             ·
              have qr20 := hr18
              simp at hr18
              refine k_ rfl rfl rfl rfl (k_ rfl rfl rfl rfl (k_ rfl rfl rfl rfl (k_ rfl rfl rfl rfl (k_ rfl rfl rfl rfl (k_ rfl rfl rfl rfl (a_ (t_ rfl rfl) rfl (d_ (p_ rfl ?_))))))))
              exact met ⟨rfl, (s_ rfl (jaf qr20)), trivial⟩
             ·
              have qr20 := hr18
              simp at hr18
              refine i_ rfl rfl (a_ (f_ rfl) rfl (i_ rfl rfl (a_ (h_ bA_ rfl rfl rfl aI_) rfl (i_ rfl rfl (a_ (n_ 0 bg_ rfl rfl rfl) rfl (i_ rfl rfl (a_ (h_ R_ rfl rfl rfl y_) rfl (i_ rfl rfl (a_ (n_ 1 H_ rfl rfl rfl) rfl ?_)))))))))
              refine i_ rfl rfl (bW_ (dD_ ut (Pc.t p) dd_ (fC_ _ (by omega))) rfl rfl x_ (fun _ _ _ => by exact trivial) rfl fun r21 hr21 => ?_)
              refine a_ (v_ rfl rfl) rfl (d_ (p_ rfl ?_))
              exact met ⟨rfl, (s_ rfl (jat qr20 hr21)), trivial⟩
            ·
             refine a_ (e_ rfl) rfl (d_ (b_ rfl (u_ ?_)))
             exact Y_ nQ_ () (s_ rfl (by unfold Pc.valid; rw [if_neg (by omega)]; simp only [hus]; rw [if_neg (by simp <;> omega), if_neg (by simp <;> omega)]; exact hr20.symm)) (.refl _) (fun _ _ _ => trivial)
       ·
        simp at hr9
        refine w_ rfl (g_ (c_ (a_ (e_ rfl) rfl (d_ (b_ rfl (u_ ?_))))))
        exact Y_ nQ_ () (s_ rfl (by unfold Pc.valid; rw [if_neg (by omega)]; simp only [hus]; first | (rw [if_pos (by first | (simp; omega) | omega)]) | (rw [if_neg (by simp), if_pos (by simp; omega)]))) (.refl _) (fun _ _ _ => trivial)
     ·
      refine w_ rfl (g_ (c_ (a_ (e_ rfl) rfl (d_ (b_ rfl (g_ (c_ (a_ (h_ R_ rfl rfl rfl q_) rfl (a_ (n_ 1 B_ rfl rfl rfl) rfl ?_)))))))))
      refine E_ (au_ rfl rfl) rfl fun r22 hr22 => ?_
      refine a_ (f_ rfl) rfl ?_
      refine aV_ 6 ((decide ((Pc.lo p) < (-1099511627776))) || (decide ((Pc.hi p) < (Pc.lo p)))) (fun r => [(1, zp_ b1 0), (2, .bool false), (3, zp_ b2 0), (4, .func (.func 83) #[] #[]), (5, .func (.func 85) #[] #[]), (39, .bool r)]) ?_ fun r23 hr23 => ?_
      ·
       cases r22
       ·
        have qr23 := hr22
        replace hr22 := of_decide_eq_false hr22
        refine i_ rfl rfl (a_ (h_ R_ rfl rfl rfl q_) rfl (i_ rfl rfl (a_ (n_ 1 B_ rfl rfl rfl) rfl (i_ rfl rfl (a_ (h_ R_ rfl rfl rfl q_) rfl (i_ rfl rfl (a_ (n_ 1 B_ rfl rfl rfl) rfl (i_ rfl rfl (E_ (bp_ rfl rfl) rfl fun r24 hr24 => ?_)))))))))
        refine a_ (t_ rfl rfl) rfl (d_ (p_ rfl ?_))
        exact met ⟨rfl, rfl, rfl, rfl, rfl, (s_ rfl (jof qr23 hr24)), trivial⟩
       ·
        have qr23 := hr22
        replace hr22 := of_decide_eq_true hr22
        refine k_ rfl rfl rfl rfl (k_ rfl rfl rfl rfl (k_ rfl rfl rfl rfl (k_ rfl rfl rfl rfl (k_ rfl rfl rfl rfl (a_ (v_ rfl rfl) rfl (d_ (p_ rfl ?_)))))))
        exact met ⟨rfl, rfl, rfl, rfl, rfl, (s_ rfl (jot qr23)), trivial⟩
      ·
       refine a_ (f_ rfl) rfl ?_
       refine aV_ 4 ((((decide ((Pc.lo p) < (-1099511627776))) || (decide ((Pc.hi p) < (Pc.lo p))))) || (decide (1099511627776 < (Pc.hi p)))) (fun r => [(1, zp_ b1 0), (2, .bool false), (3, zp_ b2 0), (4, .func (.func 83) #[] #[]), (5, .func (.func 85) #[] #[]), (44, .bool r)]) ?_ fun r25 hr25 => ?_
       ·
        cases r23
        ·
         have qr25 := hr23
         simp at hr23
         refine i_ rfl rfl (a_ (h_ R_ rfl rfl rfl q_) rfl (i_ rfl rfl (a_ (n_ 1 B_ rfl rfl rfl) rfl (i_ rfl rfl (E_ (bp_ rfl rfl) rfl fun r26 hr26 => ?_)))))
         refine a_ (t_ rfl rfl) rfl (d_ (p_ rfl ?_))
         exact met ⟨rfl, rfl, rfl, rfl, rfl, (s_ rfl (jof qr25 hr26)), trivial⟩
        ·
         have qr25 := hr23
         simp at hr23
         refine k_ rfl rfl rfl rfl (k_ rfl rfl rfl rfl (k_ rfl rfl rfl rfl (a_ (v_ rfl rfl) rfl (d_ (p_ rfl ?_)))))
         exact met ⟨rfl, rfl, rfl, rfl, rfl, (s_ rfl (jot qr25)), trivial⟩
       ·
        refine d_ (b_ rfl ?_)
        cases r25
        ·
         simp at hr25
         refine A_ rfl (J_ (b_ rfl (g_ (c_ (a_ (f_ rfl) rfl (a_ (h_ bA_ rfl rfl rfl aI_) rfl (a_ (n_ 0 bg_ rfl rfl rfl) rfl (a_ (h_ R_ rfl rfl rfl y_) rfl (a_ (n_ 1 H_ rfl rfl rfl) rfl ?_)))))))))
         refine bW_ (dD_ ua (Pc.a p) br_ (fa_ _ (by omega))) rfl rfl x_ (fun _ _ _ => by exact trivial) rfl fun r27 hr27 => ?_
         refine a_ (f_ rfl) rfl ?_
         refine aV_ 7 ((cC_ ua (Pc.a p) br_) && (cC_ ub (Pc.b p) br_)) (fun r => [(1, zp_ b1 0), (2, .bool false), (3, zp_ b2 0), (4, .func (.func 83) #[] #[]), (5, .func (.func 85) #[] #[]), (66, .bool r)]) ?_ fun r28 hr28 => ?_
         ·
          cases r27
          ·
           have qr28 := hr27
           refine k_ rfl rfl rfl rfl (k_ rfl rfl rfl rfl (k_ rfl rfl rfl rfl (k_ rfl rfl rfl rfl (k_ rfl rfl rfl rfl (k_ rfl rfl rfl rfl (a_ (t_ rfl rfl) rfl (d_ (p_ rfl ?_))))))))
           exact met ⟨rfl, rfl, rfl, rfl, rfl, (s_ rfl (jaf qr28)), trivial⟩
          ·
           have qr28 := hr27
           refine i_ rfl rfl (a_ (f_ rfl) rfl (i_ rfl rfl (a_ (h_ bA_ rfl rfl rfl aI_) rfl (i_ rfl rfl (a_ (n_ 0 bg_ rfl rfl rfl) rfl (i_ rfl rfl (a_ (h_ R_ rfl rfl rfl y_) rfl (i_ rfl rfl (a_ (n_ 1 H_ rfl rfl rfl) rfl ?_)))))))))
           refine i_ rfl rfl (bW_ (dD_ ub (Pc.b p) br_ (fa_ _ (by omega))) rfl rfl x_ (fun _ _ _ => by exact trivial) rfl fun r29 hr29 => ?_)
           refine a_ (v_ rfl rfl) rfl (d_ (p_ rfl ?_))
           exact met ⟨rfl, rfl, rfl, rfl, rfl, (s_ rfl (jat qr28 hr29)), trivial⟩
         ·
          refine a_ (f_ rfl) rfl ?_
          refine aV_ 7 ((((cC_ ua (Pc.a p) br_) && (cC_ ub (Pc.b p) br_))) && (cC_ uc (Pc.c p) br_)) (fun r => [(1, zp_ b1 0), (2, .bool false), (3, zp_ b2 0), (4, .func (.func 83) #[] #[]), (5, .func (.func 85) #[] #[]), (74, .bool r)]) ?_ fun r30 hr30 => ?_
          ·
           cases r28
           ·
            have qr30 := hr28
            simp at hr28
            refine k_ rfl rfl rfl rfl (k_ rfl rfl rfl rfl (k_ rfl rfl rfl rfl (k_ rfl rfl rfl rfl (k_ rfl rfl rfl rfl (k_ rfl rfl rfl rfl (a_ (t_ rfl rfl) rfl (d_ (p_ rfl ?_))))))))
            exact met ⟨rfl, rfl, rfl, rfl, rfl, (s_ rfl (jaf qr30)), trivial⟩
           ·
            have qr30 := hr28
            simp at hr28
            refine i_ rfl rfl (a_ (f_ rfl) rfl (i_ rfl rfl (a_ (h_ bA_ rfl rfl rfl aI_) rfl (i_ rfl rfl (a_ (n_ 0 bg_ rfl rfl rfl) rfl (i_ rfl rfl (a_ (h_ R_ rfl rfl rfl y_) rfl (i_ rfl rfl (a_ (n_ 1 H_ rfl rfl rfl) rfl ?_)))))))))
            refine i_ rfl rfl (bW_ (dD_ uc (Pc.c p) br_ (fa_ _ (by omega))) rfl rfl x_ (fun _ _ _ => by exact trivial) rfl fun r31 hr31 => ?_)
            refine a_ (v_ rfl rfl) rfl (d_ (p_ rfl ?_))
            exact met ⟨rfl, rfl, rfl, rfl, rfl, (s_ rfl (jat qr30 hr31)), trivial⟩
          ·
           refine a_ (f_ rfl) rfl ?_
           refine aV_ 8 ((((((cC_ ua (Pc.a p) br_) && (cC_ ub (Pc.b p) br_))) && (cC_ uc (Pc.c p) br_))) && (cC_ ur (Pc.r p) bG_)) (fun r => [(1, zp_ b1 0), (2, .bool false), (3, zp_ b2 0), (4, .func (.func 83) #[] #[]), (83, .bool r)]) ?_ fun r32 hr32 => ?_
           ·
            cases r30
            ·
             have qr32 := hr30
             simp at hr30
             refine k_ rfl rfl rfl rfl (k_ rfl rfl rfl rfl (k_ rfl rfl rfl rfl (k_ rfl rfl rfl rfl (k_ rfl rfl rfl rfl (k_ rfl rfl rfl rfl (k_ rfl rfl rfl rfl (a_ (t_ rfl rfl) rfl (d_ (p_ rfl ?_)))))))))
             exact met ⟨rfl, rfl, rfl, rfl, (s_ rfl (jaf qr32)), trivial⟩
            ·
             have qr32 := hr30
             simp at hr30
             refine i_ rfl rfl (a_ (f_ rfl) rfl (i_ rfl rfl (a_ (h_ bA_ rfl rfl rfl aI_) rfl (i_ rfl rfl (a_ (n_ 0 bg_ rfl rfl rfl) rfl (i_ rfl rfl (a_ (h_ R_ rfl rfl rfl y_) rfl (i_ rfl rfl (a_ (n_ 1 H_ rfl rfl rfl) rfl ?_)))))))))
             refine i_ rfl rfl (a_ (f_ rfl) rfl (i_ rfl rfl (bW_ (dD_ ur (Pc.r p) bG_ (dA_ _ (by omega))) rfl rfl x_ (fun _ _ _ => by exact trivial) rfl fun r33 hr33 => ?_)))
             refine a_ (v_ rfl rfl) rfl (d_ (p_ rfl ?_))
             exact met ⟨rfl, rfl, rfl, rfl, (s_ rfl (jat qr32 hr33)), trivial⟩
           ·
            refine a_ (f_ rfl) rfl ?_
            refine aV_ 7 ((((((((cC_ ua (Pc.a p) br_) && (cC_ ub (Pc.b p) br_))) && (cC_ uc (Pc.c p) br_))) && (cC_ ur (Pc.r p) bG_))) && (cC_ us (Pc.s p) dd_)) (fun r => [(1, zp_ b1 0), (2, .bool false), (3, zp_ b2 0), (4, .func (.func 83) #[] #[]), (91, .bool r)]) ?_ fun r34 hr34 => ?_
            ·
             cases r32
             ·
              have qr34 := hr32
              simp at hr32
              refine k_ rfl rfl rfl rfl (k_ rfl rfl rfl rfl (k_ rfl rfl rfl rfl (k_ rfl rfl rfl rfl (k_ rfl rfl rfl rfl (k_ rfl rfl rfl rfl (a_ (t_ rfl rfl) rfl (d_ (p_ rfl ?_))))))))
              exact met ⟨rfl, rfl, rfl, rfl, (s_ rfl (jaf qr34)), trivial⟩
             ·
              have qr34 := hr32
              simp at hr32
              refine i_ rfl rfl (a_ (f_ rfl) rfl (i_ rfl rfl (a_ (h_ bA_ rfl rfl rfl aI_) rfl (i_ rfl rfl (a_ (n_ 0 bg_ rfl rfl rfl) rfl (i_ rfl rfl (a_ (h_ R_ rfl rfl rfl y_) rfl (i_ rfl rfl (a_ (n_ 1 H_ rfl rfl rfl) rfl ?_)))))))))
              refine i_ rfl rfl (bW_ (dD_ us (Pc.s p) dd_ (fC_ _ (by omega))) rfl rfl x_ (fun _ _ _ => by exact trivial) rfl fun r35 hr35 => ?_)
              refine a_ (v_ rfl rfl) rfl (d_ (p_ rfl ?_))
              exact met ⟨rfl, rfl, rfl, rfl, (s_ rfl (jat qr34 hr35)), trivial⟩
            ·
             refine a_ (f_ rfl) rfl ?_
             refine aV_ 7 ((((((((((cC_ ua (Pc.a p) br_) && (cC_ ub (Pc.b p) br_))) && (cC_ uc (Pc.c p) br_))) && (cC_ ur (Pc.r p) bG_))) && (cC_ us (Pc.s p) dd_))) && (cC_ ut (Pc.t p) dd_)) (fun r => [(2, .bool false), (99, .bool r)]) ?_ fun r36 hr36 => ?_
             ·
              cases r34
              ·
               have qr36 := hr34
               simp at hr34
               refine k_ rfl rfl rfl rfl (k_ rfl rfl rfl rfl (k_ rfl rfl rfl rfl (k_ rfl rfl rfl rfl (k_ rfl rfl rfl rfl (k_ rfl rfl rfl rfl (a_ (t_ rfl rfl) rfl (d_ (p_ rfl ?_))))))))
               exact met ⟨rfl, (s_ rfl (jaf qr36)), trivial⟩
              ·
               have qr36 := hr34
               simp at hr34
               refine i_ rfl rfl (a_ (f_ rfl) rfl (i_ rfl rfl (a_ (h_ bA_ rfl rfl rfl aI_) rfl (i_ rfl rfl (a_ (n_ 0 bg_ rfl rfl rfl) rfl (i_ rfl rfl (a_ (h_ R_ rfl rfl rfl y_) rfl (i_ rfl rfl (a_ (n_ 1 H_ rfl rfl rfl) rfl ?_)))))))))
               refine i_ rfl rfl (bW_ (dD_ ut (Pc.t p) dd_ (fC_ _ (by omega))) rfl rfl x_ (fun _ _ _ => by exact trivial) rfl fun r37 hr37 => ?_)
               refine a_ (v_ rfl rfl) rfl (d_ (p_ rfl ?_))
               exact met ⟨rfl, (s_ rfl (jat qr36 hr37)), trivial⟩
             ·
              refine a_ (e_ rfl) rfl (d_ (b_ rfl (u_ ?_)))
              exact Y_ nQ_ () (s_ rfl (by unfold Pc.valid; rw [if_neg (by omega)]; simp only [hus]; rw [if_neg (by simp <;> omega), if_neg (by simp <;> omega)]; exact hr36.symm)) (.refl _) (fun _ _ _ => trivial)
        ·
         simp at hr25
         refine w_ rfl (g_ (c_ (a_ (e_ rfl) rfl (d_ (b_ rfl (u_ ?_))))))
         exact Y_ nQ_ () (s_ rfl (by unfold Pc.valid; rw [if_neg (by omega)]; simp only [hus]; first | (rw [if_pos (by first | (simp; omega) | omega)]) | (rw [if_neg (by simp), if_pos (by simp; omega)]))) (.refl _) (fun _ _ _ => trivial)
    ·
     simp at hr6
     refine w_ rfl (g_ (c_ (a_ (e_ rfl) rfl (d_ (b_ rfl (u_ ?_))))))
     exact Y_ nQ_ () (s_ rfl (by unfold Pc.valid; rw [if_pos (by omega)])) (.refl _) (fun _ _ _ => trivial)
theorem mz_ (l : List Pc) (ad : Option Addr) (cap : Nat) (hl : l.length ≤ 17592186044414) (hsm : ∀ p ∈ l, p.sm) : Tri Tryz.prog 14 #[.slice ad (List.length l) cap] [] [aY_ ad (List.flatMap Pc.cells l), jx_] (fun _ : Unit => .int .i64 (cW_ l)) (fun _ => []) (fun _ => []) := by
  refine S_ Tryz.func14 rfl rfl Tryz.ntmps14 rfl fun v0 => ?_
  refine g_ (c_ (a_ (e_ rfl) rfl (d_ (b_ rfl (g_ (g_ (c_ (a_ (f_ rfl) rfl (a_ (aA_ cZ_ rfl) rfl ?_)))))))))
  refine E_ (bp_ rfl rfl) rfl fun r1 hr1 => ?_
  refine d_ (b_ rfl ?_)
  cases r1
  · skip
    replace hr1 := of_decide_eq_false hr1
    refine A_ rfl (J_ (b_ rfl (g_ (g_ (c_ (a_ (f_ rfl) rfl (a_ (aA_ cZ_ rfl) rfl (a_ (f_ rfl) rfl (d_ ?_)))))))))
    refine b_ rfl (ae_ (de_ [(8, .slice ad (List.length l) cap), (9, .int .i64 (List.length l : Int)), (10, .int .i64 ((0 : Nat) : Int))] ⟨rfl, rfl, rfl, trivial⟩ ?_))
    refine dq_ (ι := {q : Nat // q ≤ l.length ∧ (l.take q).all Pc.valid = true}) (fun i => [(8, .slice ad (List.length l) cap), (9, .int .i64 (List.length l : Int)), (10, .int .i64 (i.1 : Int))]) (fun _ => _) (fun _ => _) (fun i => l.length - i.1) ⟨0, by simp⟩ ?_
    rintro ⟨i, hk⟩
    refine de_ [(8, .slice ad (List.length l) cap), (9, .int .i64 (List.length l : Int)), (10, .int .i64 (i : Int))] ⟨rfl, rfl, rfl, trivial⟩ ?_
    refine g_ (c_ (E_ (au_ rfl rfl) rfl fun r2 hr2 => ?_))
    refine d_ (b_ rfl (g_ ?_))
    cases r2
    · skip
      replace hr2 := of_decide_eq_false hr2
      refine A_ rfl (bj_ rfl (b_ rfl (g_ (c_ (a_ (e_ rfl) rfl (d_ (b_ rfl (u_ ?_))))))))
      exact Y_ Tryz.results14 () (aH_ rfl (by unfold cW_; rw [if_neg (by omega), if_pos (by have := hk.2; rwa [List.take_of_length_le (by omega)] at this)])) (.refl _) (fun _ _ _ => trivial)
    · skip
      replace hr2 := of_decide_eq_true hr2
      have hlx1 : i < List.length l := by omega
      obtain ⟨x1, hx1⟩ : ∃ e0, l[i]? = some e0 := ⟨_, List.getElem?_eq_getElem hlx1⟩
      have hmx1 : x1 ∈ l := List.mem_of_getElem? hx1
      refine w_ rfl (J_ (b_ rfl (g_ (ae_ (g_ (c_ (a_ (an_ cZ_ ay_ rfl rfl (fun v _ h => ba_ (n := 10) Pc.cells_len (by decide) (by exact h.1) hx1) (by omega) (by first | omega | (simp; done))) rfl (a_ (aX_ (ad := ad) (us := Pc.cells x1) ho_ ay_ rfl (fun v _ h => by exact h.1) (Pc.cells_len _) (ar_ Pc.cells_len hx1)) rfl (Z_ Tryz.zeroValue73 rfl fun b1 => ?_)))))))))
      refine Q_ 0 ay_ rfl rfl rfl rfl rfl rfl (d_ (b_ rfl (g_ (c_ (a_ (M_ 0 ho_ ay_ rfl rfl rfl) rfl (ah_ (mZ_ x1 (hsm x1 hmx1)) rfl x_ (fun v _ h => by exact ⟨h.2.1, trivial⟩) rfl fun r3 hr3 => ?_))))))
      refine a_ (bu_ rfl) rfl (d_ (b_ rfl ?_))
      cases r3
      · skip
        refine w_ rfl (g_ (c_ (a_ (e_ rfl) rfl (d_ (b_ rfl (u_ ?_))))))
        exact Y_ Tryz.results14 () (aH_ rfl (by unfold cW_; rw [if_neg (by omega), if_neg (by rw [show l.all Pc.valid = false from List.all_eq_false.2 ⟨x1, hmx1, by simp [*]⟩]; simp)])) (.refl _) (fun _ _ _ => trivial)
      · skip
        refine A_ rfl (J_ (b_ rfl (c_ (a_ (ag_ rfl rfl rfl (aS_ (by omega) (by omega))) rfl (a_ (f_ rfl) rfl (d_ (p_ rfl ?_)))))))
        exact aU_ ⟨i + 1, hlx1, by rw [List.take_add_one, hx1]; simp only [Option.toList_some, List.all_append, hk.2]; simp [*]⟩ (by simp; omega) ⟨rfl, rfl, rfl, trivial⟩ (@List.perm_append_comm _ [_] _) (fun _ _ h => h)
  · skip
    replace hr1 := of_decide_eq_true hr1
    refine w_ rfl (g_ (c_ (a_ (e_ rfl) rfl (d_ (b_ rfl (u_ ?_))))))
    exact Y_ Tryz.results14 () (aH_ rfl (by unfold cW_; rw [if_pos (by omega)])) (.refl _) (fun _ _ _ => trivial)
end Go.Proofs.YtaffcjgphlhppaaGreatDoor
namespace Go.Vs
open Go Go.Sx
def vw (W : World) : Vw := ⟨fun b => b < W.heap.size, W, True⟩
theorem vw_sat (W : World) : (vw W).sat [] := ⟨(fun _ h => by cases h), (by simp), fun _ h => h⟩
section
variable {H : Type} {enc : TypeId × Value → H} {P : Program} {W : World}
abbrev wok (l : List Nat) : Prop := l.all (· ≤ reachBytes) = true
theorem dS_ {a b : List Nat} : wok (a ++ b) ↔ wok a ∧ wok b := by simp [wok, List.all_append]
theorem nw_ {n : Nat} {b : List Nat} : wok (n :: b) ↔ n ≤ reachBytes ∧ wok b := by simp [wok]
theorem nx_ {e : TypeId} : ∀ {ds : List (DataW H)}, wok (DataW.weightsAll P e ds) → ∀ d ∈ ds, wok (d.weights P e)
  | [], _, _, h => by cases h
  | x :: ds, hw, d, hd => by
    rw [DataW.weightsAll, dS_] at hw
    rcases List.mem_cons.1 hd with rfl | hd
    · exact hw.1
    · exact nx_ hw.2 d hd
theorem jE_ {α : Type} [Inhabited α] (f : α → List Value) (k : Nat) (hk : ∀ x, (f x).length = k) (hk0 : 0 < k) (Q : α → Prop) {ts te : TypeId} (hs : P.underlying ts = some (.slice te)) (hc : P.cellsOf te = k) {n : Nat} {cs : List Value} {x : DataW H × List MemPlace}
    (hread : ∀ m, m < n → ∀ cs' y, DataW.trod enc P W 0 (fun _ => true) true m te cs' = some y → wok (y.1.weights P te) → ∃ c, cs' = f c ∧ Q c)
    (h : DataW.trod enc P W 0 (fun _ => true) true n ts cs = some x) (hw : wok (x.1.weights P ts)) :
    ∃ (l : List α) (ad : Option Addr) (cap : Nat), cs = [.slice ad l.length cap] ∧ bV_ (vw W) ad (l.flatMap f) ∧ (∀ c ∈ l, Q c) ∧ l.length ≤ cap ∧ cap * P.bytesOf te ≤ reachBytes := by
  rcases DataW.trod_slice hs h with ⟨h0, _⟩ | ⟨a, len, cap, elems, rest, m, hn, rfl, rfl, _, hl, _, hlen, hel, hsp, _⟩
  · exact ⟨[], none, 0, h0, .inl rfl, (fun _ h => by cases h), Nat.le_refl _, by simp⟩
  · obtain ⟨hr, _⟩ := hsp rfl
    simp only [DataW.weights, hs, nw_, dS_, List.length_map] at hw
    have hcap : cap * P.bytesOf te ≤ reachBytes := by
      have e : elems.length + rest.length = cap := by omega
      rw [← e]; exact hw.1
    have hone : ∀ i, i < len → ∃ c : α, W.cells? 0 (a.add (i * k)) k = some (f c) ∧ Q c := fun i hi => by
      have he := hel i hi
      rw [hc, List.getElem?_eq_getElem (by omega)] at he
      obtain ⟨cs', h1, h2⟩ := Option.bind_eq_some_iff.1 he
      obtain ⟨c, rfl, hq⟩ := hread m (by omega) cs' _ h2 (nx_ hw.2.1 _ (List.mem_map_of_mem (List.getElem_mem (by omega))))
      exact ⟨c, h1, hq⟩
    obtain ⟨C, hC⟩ := Deep.choose_lt hone
    refine ⟨(List.range len).map C, some a, cap, by simp, ?_, ?_, by simpa using hl, hcap⟩
    · by_cases h0 : len = 0
      · left; simp [h0]
      · have h1 := (hC 0 (by omega)).1
        obtain ⟨_, _, hcell⟩ := World.cells?_some h1
        have hc0 := hcell 0 hk0
        have hlt : 0 < (f (C 0)).length := by rw [hk]; exact hk0
        rw [List.getElem?_eq_getElem hlt] at hc0
        cases hb : W.heap[a.block]? with
        | none => simp [World.cell?, Addr.add, hb] at hc0
        | some o =>
          cases o with
          | cells arr T fz =>
            have hspot : a.spot = none := by
              cases hsp2 : a.spot with
              | none => rfl
              | some s => simp [World.cell?, Addr.add, hb, hsp2] at hc0
            obtain ⟨b, off, sp⟩ := a
            simp only at hspot hb
            subst hspot
            right
            refine ⟨b, off, arr, T, fz, rfl, (Array.getElem?_eq_some_iff.1 hb).1, hb, fun j y hj => ?_⟩
            have hjlt : j < len * k := by
              have := (List.getElem?_eq_some_iff.1 hj).1
              rw [eR_ f k hk] at this
              simpa using this
            have hi : j / k < len := Nat.div_lt_of_lt_mul (by rw [Nat.mul_comm]; exact hjlt)
            have hr' : j % k < k := Nat.mod_lt _ hk0
            have e : j = (j / k) * k + j % k := by rw [Nat.mul_comm]; exact (Nat.div_add_mod j k).symm
            have hget : ((List.range len).map C)[j / k]? = some (C (j / k)) := by simp [hi]
            rw [e, in_ f k hk _ (j / k) (j % k) _ hget hr'] at hj
            obtain ⟨_, _, hcell⟩ := World.cells?_some (hC (j / k) hi).1
            have := hcell (j % k) hr'
            rw [hj, cT_, cT_] at this
            rw [e]
            simpa [World.cell?, hb, Nat.add_assoc] using this
          | _ => simp [World.cell?, Addr.add, hb] at hc0
    · intro c hc'
      obtain ⟨i, hi, rfl⟩ := List.mem_map.1 hc'
      exact (hC i (by simpa using hi)).2
end
instance : Inhabited Con := ⟨.mk 0 [] 0 0 none 0 []⟩
instance : Inhabited Ax := ⟨⟨0, false, default, default, none, 0, [], [], [], []⟩⟩
instance : Inhabited Pc := ⟨⟨0, [], [], [], [], [], [], 0, 0, 0⟩⟩
structure Tys (P : Program) (tI tB tS tSs tC tCs tA tAs tP tPs : TypeId) : Prop where
  i : P.underlying tI = some (.int .i64)
  b : P.underlying tB = some .bool
  s : P.underlying tS = some .string
  ss : P.underlying tSs = some (.slice tS)
  c : ∃ fs, P.underlying tC = some (.struct fs) ∧ fs.toList.map (fun f => (f.type, f.offset)) = [(tI, 0), (tS, 1), (tI, 2), (tI, 3), (tCs, 4)]
  cs : P.underlying tCs = some (.slice tC)
  a : ∃ fs, P.underlying tA = some (.struct fs) ∧ fs.toList.map (fun f => (f.type, f.offset)) = [(tI, 0), (tB, 1), (tC, 2), (tC, 7), (tSs, 12), (tS, 13), (tS, 14), (tS, 15)]
  axs : P.underlying tAs = some (.slice tA)
  p : ∃ fs, P.underlying tP = some (.struct fs) ∧ fs.toList.map (fun f => (f.type, f.offset)) = [(tI, 0), (tS, 1), (tS, 2), (tS, 3), (tS, 4), (tS, 5), (tS, 6), (tI, 7), (tI, 8), (tI, 9)]
  ps : P.underlying tPs = some (.slice tP)
  ci : P.cellsOf tI = 1
  cb : P.cellsOf tB = 1
  cs1 : P.cellsOf tS = 1
  css : P.cellsOf tSs = 1
  cc : P.cellsOf tC = 5
  ccs : P.cellsOf tCs = 1
  ca : P.cellsOf tA = 16
  cp : P.cellsOf tP = 10
  bs : P.bytesOf tS = 16
  bc : P.bytesOf tC = 64
  ba : P.bytesOf tA = 216
  bp : P.bytesOf tP = 128
section
variable {H : Type} {enc : TypeId × Value → H} {P : Program} {W : World} {tI tB tS tSs tC tCs tA tAs tP tPs : TypeId} (X : Tys P tI tB tS tSs tC tCs tA tAs tP tPs)
theorem fields_of {t : TypeId} {fs : Array Field} {L : List (TypeId × Nat)} {cs : List Value} {n : Nat} {x : DataW H × List MemPlace} (ht : P.underlying t = some (.struct fs)) (hL : fs.toList.map (fun f => (f.type, f.offset)) = L) (h : DataW.trod enc P W 0 (fun _ => true) true n t cs = some x) :
    ∃ (xs : List (DataW H × List MemPlace)) (m : Nat), n = m + 1 ∧ x.1 = .agg (xs.map (·.1)) ∧ cs.length = P.cellsOf t ∧ xs.length = L.length ∧ (∀ (i : Nat) q, L[i]? = some q → DataW.trod enc P W 0 (fun _ => true) true m q.1 ((cs.drop q.2).take (P.cellsOf q.1)) = xs[i]?) ∧
      (x.1.weights P t = DataW.weightsEach P (L.map (·.1)) (xs.map (·.1))) := by
  obtain ⟨xs, m, hn, hx, hl, hlen, hf⟩ := DataW.trod_struct ht h
  refine ⟨xs, m, hn, by rw [hx], hl, by rw [hlen, ← hL]; simp, fun i q hq => ?_, ?_⟩
  · rw [← hL, List.getElem?_map, Option.map_eq_some_iff] at hq
    obtain ⟨f, hf', rfl⟩ := hq
    exact hf i f (by simpa using hf')
  · rw [hx]; simp only [DataW.weights, ht]
    congr 1
    rw [← hL, List.map_map]; rfl
include X
theorem gV_ {n : Nat} {cs : List Value} {x : DataW H × List MemPlace} (h : DataW.trod enc P W 0 (fun _ => true) true n tI cs = some x) : ∃ k : Int, cs = [.int .i64 k] ∧ -9223372036854775808 ≤ k ∧ k ≤ 9223372036854775807 := by
  obtain ⟨k, h1, _, h3⟩ := DataW.trod_int X.i h
  have := bounds_i64 h3
  exact ⟨k, h1, this.1, this.2⟩
theorem str_of {n : Nat} {cs : List Value} {x : DataW H × List MemPlace} (h : DataW.trod enc P W 0 (fun _ => true) true n tS cs = some x) (hw : wok (x.1.weights P tS)) : ∃ s : Str, cs = [str s] ∧ s.length ≤ 140737488351232 := by
  obtain ⟨s, h1, h2, _⟩ := DataW.trod_string X.s h
  rw [h2] at hw
  simp [wok, DataW.weights, reachBytes] at hw
  refine ⟨s.data.toList, by rw [h1]; rfl, by have := of_decide_eq_true hw; simpa using this⟩
end
end Go.Vs
namespace Go.Vs
open Go Go.Sx Go.ChangeShapes Go.WideShapes Go.ChangeAt Go.RowKit
section
variable {H : Type} {enc : TypeId × Value → H} {P : Program} {w : World}
mutual
def dU_ {H : Type} : DataW H → List Value
  | .lit (.int k n) => [.int k n]
  | .lit (.bool b) => [.bool b]
  | .agg ps => gu_ ps
  | _ => []
def gu_ {H : Type} : List (DataW H) → List Value
  | [] => []
  | d :: r => dU_ d ++ gu_ r
end
def fl_ (P : Program) : Nat → TypeId → Bool
  | 0, _ => false
  | n + 1, t => match P.underlying t with
    | some .bool => true
    | some (.int _) => true
    | some (.struct fs) => fs.toList.all fun f => fl_ P n f.type
    | some (.array _ e) => fl_ P n e
    | _ => false
theorem gd_ : ∀ l : List (DataW H), gu_ l = l.flatMap dU_
  | [] => by simp [gu_]
  | d :: r => by simp only [gu_, gd_ r, List.flatMap_cons]
theorem tile : ∀ (ls : List Nat) (cs : List Value) (g : List (List Value)), cs.length = ls.sum → g.length = ls.length → (∀ j n, ls[j]? = some n → some ((cs.drop (ls.take j).sum).take n) = g[j]?) → cs = g.flatten
  | [], cs, g, h, hg, _ => by
    simp only [List.sum_nil] at h
    have h1 := List.eq_nil_of_length_eq_zero h
    have h2 : g = [] := List.eq_nil_of_length_eq_zero hg
    simp [h1, h2]
  | n :: ls, cs, [], h, hg, hp => by simp at hg
  | n :: ls, cs, x :: g, h, hg, hp => by
    have h0 := hp 0 n rfl
    simp only [List.take_zero, List.sum_nil, List.drop_zero, List.getElem?_cons_zero, Option.some.injEq] at h0
    have ih := tile ls (cs.drop n) g (by rw [List.length_drop, h]; simp) (by simpa using hg) (fun j m hj => by
      have := hp (j + 1) m hj
      simp only [List.take_succ_cons, List.sum_cons, List.getElem?_cons_succ] at this
      rw [← this, List.drop_drop])
    rw [List.flatten_cons, ← ih, ← h0, List.take_append_drop]
theorem nW_ {T : TypeId → Prop} {held : Bool} (K : Kids P T) : ∀ (n m : Nat) (t : TypeId) (cs : List Value) (x : DataW H × List MemPlace), T t → fl_ P m t = true → DataW.trod enc P w 0 (fun _ => true) held n t cs = some x → cs = dU_ x.1 := by
  intro n
  induction n with
  | zero => intro m t cs x _ _ h; simp [DataW.trod] at h
  | succ n ih =>
    intro m t cs x hT hb h
    cases m with
    | zero => simp [fl_] at hb
    | succ m =>
    cases hu : P.underlying t with
    | none => simp [fl_, hu] at hb
    | some d =>
      cases d with
      | bool => obtain ⟨b, rfl, rfl⟩ := DataW.trod_bool hu h; simp [dU_]
      | int k => obtain ⟨b, rfl, rfl, _⟩ := DataW.trod_int hu h; simp [dU_]
      | struct fs =>
        obtain ⟨xs, m', hn, rfl, hl, hlen, hf⟩ := DataW.trod_struct hu h
        obtain rfl : m' = n := by omega
        obtain ⟨k1, k2, k3⟩ := K.struct hT hu
        simp only [fl_, hu] at hb
        simp only [dU_]
        rw [gd_, List.flatMap_def, List.map_map]
        refine tile (fs.toList.map fun f => P.cellsOf f.type) cs _ (by rw [hl, k2]) (by simp [hlen]) fun j q hq => ?_
        rw [List.getElem?_map, Option.map_eq_some_iff] at hq
        obtain ⟨f, hf', rfl⟩ := hq
        have h1 := hf j f (by simpa using hf')
        have h2 := k3 j f hf'
        have hj : j < xs.length := by rw [hlen]; have := (List.getElem?_eq_some_iff.1 hf').1; simpa using this
        rw [List.getElem?_eq_getElem hj] at h1
        have h3 := ih m f.type _ _ (k1 f (List.mem_of_getElem? hf')) (List.all_eq_true.1 hb f (List.mem_of_getElem? hf')) h1
        rw [List.getElem?_map, List.getElem?_eq_getElem hj, ← List.map_take, ← h2, h3]
        rfl
      | array len e =>
        obtain ⟨xs, m', hn, rfl, hl, hlen, hf⟩ := DataW.trod_array hu h
        obtain rfl : m' = n := by omega
        obtain ⟨k1, k2⟩ := K.array hT hu
        simp only [fl_, hu] at hb
        simp only [dU_]
        rw [gd_, List.flatMap_def, List.map_map]
        refine tile (List.replicate len (P.cellsOf e)) cs _ (by rw [hl, k2]; simp) (by simp [hlen]) fun j q hq => ?_
        rw [List.getElem?_replicate] at hq
        split at hq
        · rename_i hj
          simp only [Option.some.injEq] at hq
          subst hq
          have h1 := hf j hj
          have hjx : j < xs.length := by omega
          rw [List.getElem?_eq_getElem hjx] at h1
          have h3 := ih m e _ _ k1 hb h1
          rw [List.getElem?_map, List.getElem?_eq_getElem hjx, List.take_replicate, List.sum_replicate_nat, Nat.min_eq_left (by omega), h3]
          rfl
        · cases hq
      | _ => simp [fl_, hu] at hb
end
section
variable {H : Type} {enc : TypeId × Value → H} {P : Program} {W W' : World}
theorem fZ_ : ∀ {ts : List TypeId} {vs : List Value} {ds : List (DataW H)} {ps : List MemPlace} {sp : Nat → Bool}, DataW.TrodAll enc P W 0 sp true ts vs ds ps → (∀ p ∈ ps, W.sameAt W' p) → DataW.TrodAll enc P W' 0 sp true ts vs ds ps
  | [], [], [], _, _, h, _ => h
  | _ :: _, _ :: _, _ :: _, _, _, ⟨p, q, ⟨n, h1⟩, h2, e⟩, hs => ⟨p, q, ⟨n, DataW.trod_carry n _ _ _ h1 (fun x hx => hs x (by rw [e]; exact List.mem_append_left _ hx))⟩, fZ_ h2 (fun x hx => hs x (by rw [e]; exact List.mem_append_right _ hx)), e⟩
theorem oc_ {T : TypeId → Prop} (K : Kids P T) (hz : ∀ t e, T t → P.underlying t = some (.slice e) → 0 < P.cellsOf e) {f : Func} {s : ChangeSpec} {args : Array Value} {ds : List (DataW H)} {before : List MemPlace} {tb : TypeId} (hts : ∀ t ∈ f.params.toList, T t) (hvars : s.vars = [])
    (hW : DataW.Whole enc P f.params.toList s.vars false W args.toList ds [] before) (hs : s.fn H (ds ++ []) = { results := [.lit (.bool true)], args := ds }) (hres : f.resultTypes = #[tb]) (hb : P.underlying tb = some .bool) {v' : Vw} (hto : (vw W).to [] v' []) :
    s.post enc P f false true false false W args (.bool true) v'.w := by
  have hW' := hW
  obtain ⟨p, q, hA, hV, hp, _, _⟩ := hW
  have hq : q = [] := by rw [hvars] at hV; exact hV
  subst hq
  simp only [List.append_nil] at hp
  subst hp
  have hblk : ∀ b, b < W.heap.size → v'.w.heap[b]? = W.heap[b]? := fun b hb => hto.block b hb (by simp)
  have hsame : ∀ x ∈ before, W.sameAt v'.w x := fun x hx => by
    have hlt := DataW.TrodAll.lt hA x hx
    cases x with
    | cell b off => exact World.cell?_of_block (hblk b hlt)
    | map b => exact hblk b hlt
  have hA' := fZ_ hA hsame
  have hA'' := DataW.TrodAll.respare K hz (spare' := fun b => decide (b < W.heap.size)) hts hA' (fun x hx => by simpa using DataW.TrodAll.lt hA x hx)
  refine ⟨ds, [], before, [], before, [], hW', ?_, ?_, ?_, ⟨hto.os, hto.output, fun i hi => ?_⟩, fun h => by cases h⟩
  · rw [hs, hres]; exact trodAll_mk1 (shut_bool hb true)
  · rw [hs]; exact hA''
  · rw [hs, hvars]; rfl
  · rw [hblk i hi]
    have hsome : ∃ o, W.heap[i]? = some o := ⟨_, Array.getElem?_eq_getElem hi⟩
    obtain ⟨o, ho⟩ := hsome
    rw [ho]
    cases o <;> simp
section
variable {tI tB tS tSs tC tCs tA tAs tP tPs : TypeId} (X : Tys P tI tB tS tSs tC tCs tA tAs tP tPs) {base : Nat} {v : Value} {d : DataW H} {ps : List MemPlace}
include X
end
theorem gn_ {T : TypeId → Prop} (K : Kids P T) {name : String} {d : DataW Unit} {laid : List (String × DataW Unit)} {W : World} (h : laidMet P laid W) (hm : (name, d) ∈ laid) {g : Nat} {t : TypeId} (hg : P.globalNamed name = some g) (ht' : (P.globals[g]?).map (·.type) = some t) (hT : T t) {m : Nat} (hb : fl_ P m t = true) :
    ∃ T' fz, W.heap[g]? = some (.cells (dU_ d).toArray T' fz) := by
  obtain ⟨ps, hl, _, _⟩ := h
  have key : ∀ (l : List (String × DataW Unit)) (ps : List MemPlace), DataW.LaidVars P W l ps → (name, d) ∈ l → ∃ g t cs n p, P.globalNamed name = some g ∧ (P.globals[g]?).map (·.type) = some t ∧ W.var? P name = some cs ∧ DataW.trod (fun _ => ()) P W 0 (fun _ => true) false n t cs.toList = some (d, p) := by
    intro l
    induction l with
    | nil => intro ps _ h; cases h
    | cons x r ih =>
      intro ps h hm
      obtain ⟨n', d'⟩ := x
      obtain ⟨g, t, cs, fuel, p, q, h1, h2, h3, h4, h5, _⟩ := h
      rcases List.mem_cons.1 hm with e | hm
      · cases e; exact ⟨g, t, cs, fuel, p, h1, h2, h3, h4⟩
      · exact ih q h5 hm
  obtain ⟨g', t', cs, n, p, h1, h2, h3, h4⟩ := key laid ps hl hm
  obtain rfl : g' = g := Option.some.inj (h1.symm.trans hg)
  obtain rfl : t' = t := Option.some.inj (h2.symm.trans ht')
  have e := nW_ K n m t' cs.toList _ hT hb h4
  simp only [World.var?, hg, Option.bind_some] at h3
  split at h3
  · rename_i c T' fz hc
    simp only [Option.some.injEq] at h3
    subst h3
    exact ⟨T', fz, by rw [hc, ← e]⟩
  · cases h3
end
end Go.Vs
namespace Go.Sx
open Go
section
variable {P : Program} {N : Nf} {fr : Fr} {H : Hp} {Γ : List Fct}
theorem hD_ {f : FuncId} {args : Array Value} {r : Value} {g : Nat} {cur : Array Value} {T : TypeId} {d : Array (List UInt8)} (hc : fg_ P f)
    (h : ∀ v : Vw, v.sat [(g, .cells cur T (0, 0))] → Calls P f args v.w fun e w' => e = .returned r ∧ ∃ n os, w' = Sort.grow (Sort.putRow Go.Proofs.encStr (Sort.ahead v.w n) g 0 d) os) :
    Tri P f args [(g, .cells cur T (0, 0))] Γ (fun _ : Unit => r) (fun _ => [(g, .cells (Sort.putCells Go.Proofs.encStr 0 d cur) T (0, 0))]) (fun _ => []) :=
  ⟨hc, fun v h1 _ => (h v h1).mono fun e w' ⟨he, n, os, hw⟩ => by
    have hg := (h1.own _ List.mem_cons_self)
    have hlt : g < v.w.heap.size := (Array.getElem?_eq_some_iff.1 hg.1).1
    have hb : ∀ b, b < v.w.heap.size → w'.heap[b]? = if b = g then some (.cells (Sort.putCells Go.Proofs.encStr 0 d cur) T (0, 0)) else v.w.heap[b]? := fun b hb => by
      rw [hw]
      simp only [Sort.grow, Sort.putRow, Sort.mapBlock, Sort.ahead]
      rw [Array.getElem?_append_left (by simpa using hb), Array.getElem?_modify]
      by_cases e : b = g
      · subst e
        simp only [if_true, hg.1, Option.map_some, Sort.onCells]
      · rw [if_neg (fun q => e q.symm), if_neg e]
    have hsz : v.w.heap.size ≤ w'.heap.size := by rw [hw]; simp [Sort.grow, Sort.putRow, Sort.mapBlock, Sort.ahead]
    refine ⟨(), ⟨v.im, w', v.sl⟩, he, rfl, ⟨fun p hp => ?_, by simp, fun b hbb => Nat.lt_of_lt_of_le (h1.lt b hbb) hsz⟩, trivial, ⟨by rw [hw]; rfl, by rw [hw]; rfl, by rw [hw]; rfl, hsz, fun b hbb hn => ?_, fun _ h => h, fun _ h => .inl h, fun b hm => .inl (by simpa using hm), rfl, .inr (by rw [hw]; exact Nat.le_add_right _ _)⟩⟩
    · simp only [List.mem_singleton] at hp
      subst hp
      exact ⟨by show w'.heap[g]? = _; rw [hb g hlt, if_pos rfl], hg.2⟩
    · have hn' : b ≠ g := by simpa using hn
      show w'.heap[b]? = _
      rw [hb b hbb, if_neg hn']⟩
theorem kr_ {cur : Array Value} {d : List (List UInt8)} (hs : d.length ≤ cur.size) : (Sort.putCells Go.Proofs.encStr 0 d.toArray cur).toList.take d.length = d.flatMap dy_ := by
  rw [hI_]
  apply List.ext_getElem?
  intro j
  rw [List.getElem?_take, List.getElem?_map]
  split
  · rename_i hj
    simp only [Sort.putCells, Array.getElem?_toList, Array.getElem?_mapIdx]
    rw [Array.getElem?_eq_getElem (by omega)]
    simp only [Option.map_some, Nat.zero_le, true_and, Nat.zero_add, List.size_toArray, hj, if_true, Nat.sub_zero]
    rw [List.getElem?_eq_getElem hj]
    simp only [Option.map_some]
    rw [getElem!_pos d.toArray j (by simpa using hj)]
    rfl
  · rename_i hj
    rw [List.getElem?_eq_none (by omega)]; rfl
theorem ks_ {cur : Array Value} {d : Array (List UInt8)} : (Sort.putCells Go.Proofs.encStr 0 d cur).size = cur.size := by simp [Sort.putCells]
end
end Go.Sx
namespace Go.Vs
open Go Go.Sx
def gX_ (p : Pc) : List Str := [p.a, p.b, p.c].filter fun s => !(s == [])
def cN_ (l : List Pc) : List Str := l.flatMap gX_
def cX_ (l : List Pc) : List Str := Lib.compact ((cN_ l).mergeSort fun x y => decide (x ≤ y))
theorem gi_ : ∀ l : List Pc, (cN_ l).length ≤ 3 * l.length
  | [] => by simp [cN_]
  | p :: r => by
    have h1 := gi_ r
    have h2 : (gX_ p).length ≤ 3 := by unfold gX_; exact List.length_filter_le _ _
    simp only [cN_, List.flatMap_cons, List.length_append, List.length_cons] at h1 ⊢
    omega
theorem hk_ {zs : List Str} : Lib.compact zs = ((List.range zs.length).filter fun j => decide (j = 0 ∨ zs[j]! ≠ zs[j - 1]!)).map fun j => zs[j]! := by
  unfold Lib.compact Lib.compactUpTo Lib.keeps
  have e : ∀ j, zs.toArray[j]! = zs[j]! := fun j => by
    by_cases h : j < zs.length
    · rw [getElem!_pos zs.toArray j (by simpa using h), getElem!_pos zs j h]; simp
    · rw [getElem!_neg zs.toArray j (by simpa using h), getElem!_neg zs j h]
  rw [List.map_congr_left fun j _ => e j]
  congr 2
  funext j
  rw [e, e]
theorem hj_ (zs : List Str) : (Lib.compact zs).length ≤ zs.length := by
  rw [hk_, List.length_map]
  have := List.length_filter_le (fun j => decide (j = 0 ∨ zs[j]! ≠ zs[j - 1]!)) (List.range zs.length)
  simpa using this
theorem lh_ {zs : List Str} (x : Str) : x ∈ Lib.compact zs ↔ x ∈ zs := by
  rw [hk_, List.mem_map]
  constructor
  · rintro ⟨j, hj, rfl⟩
    have hl := List.mem_range.1 (List.mem_filter.1 hj).1
    rw [getElem!_pos zs j hl]
    exact List.getElem_mem hl
  · intro hx
    obtain ⟨j, hj, e⟩ := List.mem_iff_getElem.1 hx
    clear hx
    induction j with
    | zero => exact ⟨0, List.mem_filter.2 ⟨List.mem_range.2 hj, by simp⟩, by rw [getElem!_pos zs 0 hj]; exact e⟩
    | succ j ih =>
      by_cases h : zs[j + 1]! = zs[j]!
      · have hj' : j < zs.length := by omega
        refine ih hj' ?_
        rw [getElem!_pos zs (j + 1) hj, getElem!_pos zs j hj'] at h
        rw [← h]; exact e
      · exact ⟨j + 1, List.mem_filter.2 ⟨List.mem_range.2 hj, decide_eq_true (.inr h)⟩, by rw [getElem!_pos zs (j + 1) hj]; exact e⟩
theorem iu_ (l : List Pc) (x : Str) : x ∈ cX_ l ↔ x ∈ cN_ l := by
  unfold cX_
  rw [lh_, List.mem_mergeSort]
theorem lQ_ (l : List Pc) : (cX_ l).length ≤ 3 * l.length := by
  have h1 := hj_ ((cN_ l).mergeSort fun x y => decide (x ≤ y))
  rw [List.length_mergeSort] at h1
  have h2 := gi_ l
  unfold cX_
  omega
end Go.Vs
namespace Go.Proofs.YtaffcjgphlhppaaGreatDoor
open Go Go.Sx Go.Proofs
attribute [local irreducible] Code.wp wpList wpAnyH
open Go.Vs
theorem eltS : Elt Tryz.prog 46 9 1 16 := lc_ Tryz.underlying46 (z := .string ⟨#[]⟩) (by kernel_rfl) rfl (by decide)
theorem jf_ {g n cap : Nat} {cur : Array Value} {xs : List Str} {v : Vw} (hs : v.sat [(g, .cells cur 9 (0, 0))]) (ht : cur.toList.take (xs.length * 1) = xs.flatMap dy_) : Sort.Holds encStr v.w g 0 xs.toArray := by
  intro j hj
  have hb := (hs.own _ List.mem_cons_self).1
  simp only [List.size_toArray] at hj
  have hc : cur[j]? = some (str xs[j]) := mD_ ht j xs[j] (List.getElem?_eq_getElem hj)
  refine ⟨?_, ?_⟩
  · simp only [World.cell?, Nat.zero_add, hb, Option.isSome_none, Bool.false_eq_true, if_false]
    rw [hc, getElem!_pos xs.toArray j (by simpa using hj)]
    rfl
  · simp [World.frozen?, hb]
theorem oZ_ {sv : Value} {xs : List Str} {Hr : Hp} (h : bi_ 9 1 sv xs.length (xs.flatMap dy_) Hr) (hl : xs.length ≤ 1000000000000) :
    Tri Tryz.prog 97 #[sv] Hr [] (fun _ : {y : Hp // bi_ 9 1 sv xs.length ((xs.mergeSort fun x y => decide (x ≤ y)).flatMap dy_) y} => .tuple #[]) (fun y => y.1) (fun _ => []) := by
  rcases h.2 with ⟨rfl, h2, rfl⟩ | ⟨g, cap, cur, rfl, rfl, h3, h4, h5, h6⟩
  · obtain rfl : xs = [] := List.eq_nil_of_length_eq_zero h2
    have T := gk_ (P := Tryz.prog) (H := []) (Γ := []) (callable Tryz.func97 rfl rfl) (fun v _ _ => (Tryz.slices_Sort_string_none none 0 v.w).mono (by rintro e w' ⟨rfl, rfl⟩; exact ⟨rfl, ⟨rfl, rfl, rfl, Nat.le_refl _, fun _ _ => rfl⟩, .inr (Nat.le_refl _)⟩))
    exact ⟨T.callable, fun v a b => (T.run v a b).mono (by rintro e w' ⟨x, v', e1, e2, e3, e4, e5⟩; exact ⟨⟨[], by simpa using bi_.nil _ _⟩, v', e1, e2, e3, e4, e5⟩)⟩
  · have T := hD_ (P := Tryz.prog) (Γ := []) (d := (xs.mergeSort fun x y => decide (x ≤ y)).toArray) (callable Tryz.func97 rfl rfl) (fun v hs => Tryz.slices_Sort_string g 0 cap xs v.w (jf_ (n := 0) (cap := 0) hs h6) (Array.getElem?_eq_some_iff.1 (hs.own _ List.mem_cons_self).1).1 (by omega))
    have hsz : (xs.mergeSort fun x y => decide (x ≤ y)).length = xs.length := List.length_mergeSort _
    refine ⟨T.callable, fun v a b => (T.run v a b).mono ?_⟩
    rintro e w' ⟨x, v', e1, e2, e3, e4, e5⟩
    refine ⟨⟨_, by rw [eR_ dy_ 1 cs_, hsz], .inr ⟨g, cap, _, rfl, rfl, h3, h4, by rw [ks_]; exact h5, ?_⟩⟩, v', e1, e2, e3, e4, e5⟩
    have := kr_ (cur := cur) (d := xs.mergeSort fun x y => decide (x ≤ y)) (by rw [hsz, h5]; omega)
    rw [hsz] at this
    rw [Nat.mul_one]; exact this
theorem lN_ {sv : Value} {xs : List Str} {Hr : Hp} (h : bi_ 9 1 sv xs.length (xs.flatMap dy_) Hr) (hl : xs.length ≤ 1000000000000) :
    Tri Tryz.prog 98 #[sv] Hr [] (fun y : {y : Value × Hp // bi_ 9 1 y.1 (Lib.compact xs).length ((Lib.compact xs).flatMap dy_) y.2} => y.1.1) (fun y => y.1.2) (fun _ => []) := by
  rcases h.2 with ⟨rfl, h2, rfl⟩ | ⟨g, cap, cur, rfl, rfl, h3, h4, h5, h6⟩
  · obtain rfl : xs = [] := List.eq_nil_of_length_eq_zero h2
    have T := gk_ (P := Tryz.prog) (H := []) (Γ := []) (callable Tryz.func98 rfl rfl) (fun v _ _ => (Tryz.slices_Compact_string_empty none 0 v.w).mono (by rintro e w' ⟨rfl, rfl⟩; exact ⟨rfl, ⟨rfl, rfl, rfl, Nat.le_refl _, fun _ _ => rfl⟩, .inr (Nat.le_refl _)⟩))
    exact ⟨T.callable, fun v a b => (T.run v a b).mono (by rintro e w' ⟨x, v', e1, e2, e3, e4, e5⟩; exact ⟨⟨(.slice none 0 0, []), by simpa [Lib.compact, Lib.compactUpTo] using bi_.nil _ _⟩, v', e1, e2, e3, e4, e5⟩)⟩
  · have hcl := hj_ xs
    have T := hD_ (P := Tryz.prog) (Γ := []) (r := .slice (some ⟨g, 0, none⟩) (Lib.compact xs).length cap) (d := (Lib.compact xs ++ List.replicate (xs.length - (Lib.compact xs).length) []).toArray) (callable Tryz.func98 rfl rfl) (fun v hs => (Tryz.slices_Compact_string g 0 cap xs v.w (jf_ (n := 0) (cap := 0) hs h6) (by omega) h3).mono (by
      rintro e w' ⟨rfl, q, rfl⟩
      exact ⟨rfl, q, #[], by rw [Sort.grow_empty]⟩))
    refine ⟨T.callable, fun v a b => (T.run v a b).mono ?_⟩
    rintro e w' ⟨x, v', e1, e2, e3, e4, e5⟩
    refine ⟨⟨(.slice (some ⟨g, 0, none⟩) (Lib.compact xs).length cap, _), by rw [eR_ dy_ 1 cs_], .inr ⟨g, cap, _, rfl, rfl, by omega, h4, by rw [ks_]; exact h5, ?_⟩⟩, v', e1, e2, e3, e4, e5⟩
    have hd : (Lib.compact xs ++ List.replicate (xs.length - (Lib.compact xs).length) ([] : Str)).length = xs.length := by simp; omega
    have := kr_ (cur := cur) (d := Lib.compact xs ++ List.replicate (xs.length - (Lib.compact xs).length) []) (by rw [hd, h5]; omega)
    rw [hd] at this
    have h7 := congrArg (List.take (Lib.compact xs).length) this
    rw [List.take_take, Nat.min_eq_left hcl, List.flatMap_append, List.take_append_of_le_length (by rw [eR_ dy_ 1 cs_]; omega), List.take_of_length_le (l := (Lib.compact xs).flatMap dy_) (by rw [eR_ dy_ 1 cs_]; omega)] at h7
    rw [Nat.mul_one]; exact h7
theorem pV_ (l : List Pc) (ad : Option Addr) (cap : Nat) (hl : l.length ≤ 100000000000) : Tri Tryz.prog 73 #[.slice ad (List.length l) cap] [] [aY_ ad (List.flatMap Pc.cells l)] (fun y : {y : Option Addr × Nat // (cX_ l).length ≤ y.2 ∧ y.2 ≤ maxLen} => .slice y.1.1 (cX_ l).length y.1.2) (fun _ => []) (fun y => [aY_ y.1.1 ((cX_ l).flatMap dy_)]) := by
 refine S_ Tryz.func73 rfl rfl Tryz.ntmps73 rfl fun v0 => ?_
 refine g_ (c_ (a_ (e_ rfl) rfl (d_ (b_ rfl (g_ (g_ (c_ (a_ (f_ rfl) rfl (a_ (aA_ cZ_ rfl) rfl ?_)))))))))
 refine a_ (f_ rfl) rfl (d_ (b_ rfl (ae_ (de_ [(2, .slice none 0 0), (7, .slice ad (List.length l) cap), (8, .int .i64 (List.length l : Int)), (9, .int .i64 ((0 : Nat) : Int))] ⟨rfl, rfl, rfl, rfl, trivial⟩ ?_))))
 refine dq_ (ι := {y : Nat × Value × Hp // y.1 ≤ l.length ∧ bi_ 9 1 y.2.1 (cN_ (l.take y.1)).length ((cN_ (l.take y.1)).flatMap dy_) y.2.2}) (fun y => [(2, y.1.2.1), (7, .slice ad (List.length l) cap), (8, .int .i64 (List.length l : Int)), (9, .int .i64 (y.1.1 : Int))]) (fun y => y.1.2.2) (fun _ => _) (fun y => l.length - y.1.1) ⟨(0, .slice none 0 0, []), by simp, bi_.nil _ _⟩ ?_
 rintro ⟨⟨i, sv, Hr⟩, hi, hrow⟩
 dsimp only at hi hrow
 dsimp only
 have hol := gi_ (l.take i)
 rw [List.length_take] at hol
 refine de_ [(2, sv), (7, .slice ad (List.length l) cap), (8, .int .i64 (List.length l : Int)), (9, .int .i64 (i : Int))] ⟨rfl, rfl, rfl, rfl, trivial⟩ ?_
 refine g_ (c_ (E_ (au_ rfl rfl) rfl fun r1 hr1 => ?_))
 refine d_ (b_ rfl (g_ ?_))
 cases r1
 ·
  replace hr1 := of_decide_eq_false hr1
  refine A_ rfl (bj_ rfl (b_ rfl (g_ ?_)))
  have et : l.take i = l := List.take_of_length_le (by omega)
  rw [et] at hrow hol
  refine c_ (a_ (f_ rfl) rfl (K_ (oZ_ hrow (by omega)) rfl cM_ (fun _ _ _ => by exact trivial) rfl fun ⟨Hs, hs⟩ => ?_))
  dsimp only
  refine as_ (List.Perm.symm cM_) ?_
  have hs2 : bi_ 9 1 sv ((cN_ l).mergeSort fun x y => decide (x ≤ y)).length (((cN_ l).mergeSort fun x y => decide (x ≤ y)).flatMap dy_) Hs := by rw [List.length_mergeSort]; exact hs
  refine d_ (b_ rfl (g_ (c_ (a_ (f_ rfl) rfl (K_ (lN_ hs2 (by rw [List.length_mergeSort]; omega)) rfl cM_ (fun _ _ _ => by exact trivial) rfl fun ⟨⟨sc, Hc⟩, hc⟩ => ?_)))))
  dsimp only
  refine as_ (List.Perm.symm cM_) (a_ (e_ rfl) rfl (d_ (b_ rfl (u_ (hZ_ hc cM_ fun ad2 cp2 hsv hc1 hc2 => ?_)))))
  exact Y_ Tryz.results73 ⟨(ad2, cp2), hc1, hc2⟩ (gB_ rfl hsv) x_ (fun v _ h => ⟨h.1, trivial⟩)
 ·
  replace hr1 := of_decide_eq_true hr1
  have hlx1 : i < List.length l := by omega
  obtain ⟨x1, hx1⟩ : ∃ e0, l[i]? = some e0 := ⟨_, List.getElem?_eq_getElem hlx1⟩
  have hmx1 : x1 ∈ l := List.mem_of_getElem? hx1
  refine w_ rfl (J_ (b_ rfl (g_ (ae_ (g_ (c_ (a_ (an_ cZ_ ay_ rfl rfl (fun v _ h => ba_ (n := 10) Pc.cells_len (by decide) (by exact h.1) hx1) (by omega) (by first | omega | (simp; done))) rfl (a_ (aX_ (ad := ad) (us := Pc.cells x1) ho_ ay_ rfl (fun v _ h => by exact h.1) (Pc.cells_len _) (ar_ Pc.cells_len hx1)) rfl (Z_ Tryz.zeroValue73 rfl fun b1 => ?_)))))))))
  refine Q_ 0 ay_ rfl rfl rfl rfl rfl rfl (d_ (b_ rfl (g_ (c_ (a_ (h_ R_ rfl rfl rfl y_) rfl (a_ (n_ 0 H_ rfl rfl rfl) rfl (a_ (h_ R_ rfl rfl rfl y_) rfl (a_ (n_ 0 H_ rfl rfl rfl) rfl (a_ (h_ R_ rfl rfl rfl y_) rfl ?_)))))))))
  refine a_ (n_ 0 H_ rfl rfl rfl) rfl (be_ aJ_ y_ Tryz.zeroValue9 rfl rfl rfl rfl rfl rfl fun b2 => ?_)
  refine bU_ (List.flatMap dy_ [(Pc.a x1), (Pc.b x1), (Pc.c x1)]) C_ rfl ?_
  refine a_ (aA_ aJ_ rfl) rfl (a_ (f_ rfl) rfl (d_ (b_ rfl (ae_ (de_ [(2, sv), (7, .slice ad (List.length l) cap), (8, .int .i64 (List.length l : Int)), (9, .int .i64 (i : Int)), (19, .slice (some ⟨b2, 0, none⟩) (List.length [(Pc.a x1), (Pc.b x1), (Pc.c x1)]) 3), (20, .int .i64 3), (21, .int .i64 ((0 : Nat) : Int))] ⟨rfl, rfl, rfl, rfl, rfl, rfl, rfl, trivial⟩ ?_)))))
  refine dq_ (ι := {y : Nat × Value × Hp // y.1 ≤ 3 ∧ bi_ 9 1 y.2.1 (cN_ (l.take i) ++ (List.take y.1 [x1.a, x1.b, x1.c]).filter fun s => !(s == [])).length ((cN_ (l.take i) ++ (List.take y.1 [x1.a, x1.b, x1.c]).filter fun s => !(s == [])).flatMap dy_) y.2.2}) (fun y => [(2, y.1.2.1), (7, .slice ad (List.length l) cap), (8, .int .i64 (List.length l : Int)), (9, .int .i64 (i : Int)), (19, .slice (some ⟨b2, 0, none⟩) (List.length [(Pc.a x1), (Pc.b x1), (Pc.c x1)]) 3), (20, .int .i64 3), (21, .int .i64 (y.1.1 : Int))]) (fun y => _ ::  y.1.2.2) (fun _ => _) (fun y => 3 - y.1.1) ⟨(0, sv, Hr), by simp, by simpa using hrow⟩ ?_
  rintro ⟨⟨k, sw, Hw⟩, hk, hkr⟩
  dsimp only at hk hkr
  dsimp only
  have hfl : ((cN_ (l.take i) ++ (List.take k [x1.a, x1.b, x1.c]).filter fun s => !(s == []))).length ≤ (cN_ (l.take i)).length + 3 := by
   have := List.length_filter_le (fun s => !(s == [])) (List.take k [x1.a, x1.b, x1.c])
   simp only [List.length_append, List.length_take, List.length_cons, List.length_nil] at this ⊢
   omega
  refine de_ [(2, sw), (7, .slice ad (List.length l) cap), (8, .int .i64 (List.length l : Int)), (9, .int .i64 (i : Int)), (19, .slice (some ⟨b2, 0, none⟩) (List.length [(Pc.a x1), (Pc.b x1), (Pc.c x1)]) 3), (20, .int .i64 3), (21, .int .i64 (k : Int))] ⟨rfl, rfl, rfl, rfl, rfl, rfl, rfl, trivial⟩ ?_
  refine g_ (c_ (E_ (au_ rfl rfl) rfl fun r2 hr2 => ?_))
  refine d_ (b_ rfl (g_ ?_))
  cases r2
  ·
   replace hr2 := of_decide_eq_false hr2
   refine A_ rfl (bj_ rfl (b_ rfl (c_ (a_ (ag_ rfl rfl rfl (aS_ (by omega) (by omega))) rfl (a_ (f_ rfl) rfl (d_ (p_ rfl ?_)))))))
   have hst : cN_ (l.take (i + 1)) = cN_ (l.take i) ++ gX_ x1 := by unfold cN_; rw [List.take_add_one, hx1, List.flatMap_append]; simp
   exact aU_ ⟨(i + 1, sw, Hw), hlx1, by dsimp only; rw [hst]; have := hkr; rw [List.take_of_length_le (show [x1.a, x1.b, x1.c].length ≤ k by simp; omega)] at this; exact this⟩ (by dsimp only; omega) ⟨rfl, rfl, rfl, rfl, trivial⟩ (F_ cM_) (fun _ _ h => h.2)
  ·
   replace hr2 := of_decide_eq_true hr2
   have hly1 : k < List.length [(Pc.a x1), (Pc.b x1), (Pc.c x1)] := by simp; omega
   obtain ⟨y1, hy1⟩ : ∃ e0, [(Pc.a x1), (Pc.b x1), (Pc.c x1)][k]? = some e0 := ⟨_, List.getElem?_eq_getElem hly1⟩
   have hmy1 : y1 ∈ [(Pc.a x1), (Pc.b x1), (Pc.c x1)] := List.mem_of_getElem? hy1
   refine w_ rfl (J_ (b_ rfl (g_ (ae_ (g_ (c_ (a_ (an_ aJ_ y_ rfl rfl (fun v _ h => ba_ (n := 1) cs_ (by decide) (by exact h.1) hy1) (by omega) (by first | omega | (simp; done))) rfl (a_ (bE_ (ad := (some ⟨b2, 0, none⟩)) H_ rfl (fun v _ h => by exact h.1) (ar_ cs_ hy1 0 _ rfl)) rfl (a_ (e_ rfl) rfl ?_)))))))))
   refine d_ (b_ rfl (g_ (c_ (a_ (f_ rfl) rfl (E_ (fv_ rfl rfl) rfl fun r3 hr3 => ?_)))))
   refine d_ (b_ rfl ?_)
   cases r3
   ·
    replace hr3 := bw_ hr3
    refine A_ rfl (J_ (b_ rfl (c_ (a_ (ag_ rfl rfl rfl (aS_ (by omega) (by omega))) rfl (a_ (f_ rfl) rfl (d_ (p_ rfl ?_)))))))
    have hst : (cN_ (l.take i) ++ (List.take (k + 1) [x1.a, x1.b, x1.c]).filter fun s => !(s == [])) = (cN_ (l.take i) ++ (List.take k [x1.a, x1.b, x1.c]).filter fun s => !(s == [])) ++ [y1].filter (fun s => !(s == [])) := by rw [List.append_assoc, ← List.filter_append, List.take_add_one, hy1]; simp
    rw [show [y1].filter (fun s => !(s == [])) = [] by simp [*], List.append_nil] at hst
    exact aU_ ⟨(k + 1, sw, Hw), by dsimp only; omega, by dsimp only; rw [hst]; exact hkr⟩ (by dsimp only; omega) ⟨rfl, rfl, rfl, rfl, rfl, rfl, rfl, trivial⟩ (N_ C_ cM_) (fun _ _ h => h)
   ·
    replace hr3 := bv_ hr3
    refine w_ rfl (c_ (a_ (f_ rfl) rfl (a_ (f_ rfl) rfl (be_ aJ_ y_ Tryz.zeroValue9 rfl rfl rfl rfl rfl rfl fun b3 => ?_))))
    refine bC_ (news := [str y1]) eltS hkr rfl rfl (F_ (F_ cM_)) rfl (ce_ 0 rfl) (pk_ rfl) (by simp only [maxLen]; omega) (by omega) rfl fun sv2 Hr2 hrow2 => ?_
    refine as_ (@List.perm_append_comm _ _ [_, _]) (a_ (e_ rfl) rfl (d_ (b_ rfl (c_ (a_ (ag_ rfl rfl rfl (aS_ (by omega) (by omega))) rfl (a_ (f_ rfl) rfl (d_ (p_ rfl ?_))))))))
    have hst : (cN_ (l.take i) ++ (List.take (k + 1) [x1.a, x1.b, x1.c]).filter fun s => !(s == [])) = (cN_ (l.take i) ++ (List.take k [x1.a, x1.b, x1.c]).filter fun s => !(s == [])) ++ [y1].filter (fun s => !(s == [])) := by rw [List.append_assoc, ← List.filter_append, List.take_add_one, hy1]; simp
    rw [show [y1].filter (fun s => !(s == [])) = [y1] by simp [*]] at hst
    exact aU_ ⟨(k + 1, sv2, Hr2), by dsimp only; omega, by dsimp only; rw [hst]; rw [List.length_append (bs := [y1]), List.flatMap_append (ys := [y1])]; exact hrow2⟩ (by dsimp only; omega) ⟨rfl, rfl, rfl, rfl, rfl, rfl, rfl, trivial⟩ (N_ (F_ C_) (F_ cM_)) (fun _ _ h => h)
end Go.Proofs.YtaffcjgphlhppaaGreatDoor
namespace Go.Sx
open Go
section
variable {P : Program} {N : Nf} {v0 : Vw} {H0 : Hp} {R : Exit → Act → World → Prop} {K : List Kt} {fr : Fr} {H : Hp} {Γ : List Fct}
variable {ops : Array Oper} {l : List Oper} {d : Nat} {ty : TypeId} {ps : String} {af : Array Edge}
end
end Go.Sx
namespace Go.Vs
open Go Go.Sx
def Cov (hs : List Bool) (L S : List Str) : Prop := hs.length = L.length ∧ ∀ (n : Nat) (s : Str), L[n]? = some s → s ∈ S → hs[n]? = some true
theorem Cov.nil (L : List Str) : Cov (List.replicate L.length false) L [] := ⟨by simp, fun _ _ _ h => by simp at h⟩
theorem Cov.set {hs : List Bool} {L S : List Str} (h : Cov hs L S) (n : Nat) : Cov (hs.set n true) L S := ⟨by rw [List.length_set]; exact h.1, fun m s h1 h2 => by
  have h3 := h.2 m s h1 h2
  rw [List.getElem?_set]
  split
  · rename_i e
    subst e
    rw [if_pos (List.getElem?_eq_some_iff.1 h3).1]
  · exact h3⟩
def lS_ (hs : List Bool) (L S : List Str) (y : Str) (n : Nat) : Prop := Cov hs L S ∧ ∀ m, m < n → L[m]? = some y → hs[m]? = some true
theorem lS_.zero {hs : List Bool} {L S : List Str} {y : Str} (h : Cov hs L S) : lS_ hs L S y 0 := ⟨h, fun _ h => by omega⟩
theorem lS_.hit {hs : List Bool} {L S : List Str} {y : Str} {n : Nat} (h : lS_ hs L S y n) (hn : n < L.length) : lS_ (hs.set n true) L S y (n + 1) := ⟨h.1.set n, fun m hm e => by
  rw [List.getElem?_set]
  split
  · rename_i e
    rw [if_pos (by rw [h.1.1]; omega)]
  · rename_i e2
    exact h.2 m (by omega) e⟩
theorem lS_.done {hs : List Bool} {L S : List Str} {y : Str} {n : Nat} (h : lS_ hs L S y n) (hn : L.length ≤ n) : Cov hs L (S ++ [y]) := ⟨h.1.1, fun m s h1 h2 => by
  rcases List.mem_append.1 h2 with h2 | h2
  · exact h.1.2 m s h1 h2
  · simp only [List.mem_singleton] at h2
    subst h2
    have := (List.getElem?_eq_some_iff.1 h1).1
    exact h.2 m (by omega) h1⟩
def three (p : Pc) : List Str := [p.a, p.b, p.c]
theorem Cov.all {hs : List Bool} {l : List Pc} (h : Cov hs (cX_ l) (l.flatMap three)) {n : Nat} (hn : n < (cX_ l).length) : hs[n]? = some true := by
  have hm := (iu_ l _).1 (List.getElem_mem hn)
  refine h.2 n _ (List.getElem?_eq_getElem hn) ?_
  simp only [cN_, List.mem_flatMap, gX_, List.mem_filter] at hm
  obtain ⟨p, h1, h2⟩ := hm
  exact List.mem_flatMap.2 ⟨p, h1, h2.1⟩
end Go.Vs
