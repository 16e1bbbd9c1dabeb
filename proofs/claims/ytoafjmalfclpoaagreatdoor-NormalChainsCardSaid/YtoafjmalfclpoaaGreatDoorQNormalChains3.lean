/-
  Part of the proof of the law NormalChains over this seat: the small logic, the data, the contracts of functions (no condition).
-/
import Derived.Test.YtoafjmalfclpoaaGreatDoorQNormalChains2
import Derived.Laws.MakeOwn
import Derived.Laws.OwnMore
import Derived.Shelf.Strings.Builder1
import Derived.Shelf.Strings.Builder2
import Derived.Shelf.Strings.OnBuilder
import Derived.Shelf.Small.Bits
import Derived.Shelf.Small.Strs
import Derived.Shelf.Small.Wraps
import Derived.Shelf.Strconv.Itoa0
import Derived.Shelf.Strconv.Itoa1
import Derived.Shelf.LaysM
import Derived.Shelf.Strconv.Itoa2
import Derived.Shelf.Strconv.Itoa3
import Derived.Shelf.Strings.Search1
import Derived.Shelf.Strings.Search2
import Derived.Shelf.Strings.Search3
import Derived.Shelf.Strings.Cut
import Derived.Shelf.Strings.Count
import Derived.Shelf.Strings.Shaped
import Derived.Shelf.Sort.Plain
import Derived.Shelf.Unicode.DecodeSlow
import Derived.Shelf.Slices.CompactS
import Derived.Shelf.Slices.Cells
import Derived.Shelf.Slices.In.SortNone
import Derived.Test.YtoafjmalfclpoaaGreatDoorProg
set_option linter.unusedVariables false
set_option linter.unusedSimpArgs false
set_option linter.unusedSectionVars false
namespace Go.Sx
open Go
theorem bq_.rest {α : Type} {f : α → List Value} {n : Nat} (hf : ∀ x, (f x).length = n) {v : Vw} {ad : Option Addr} {l : List α} {cap : Nat} (h : bq_ v ad (l.flatMap f)) (hc : l.length ≤ cap) (i : Nat) : bq_ v (Sx.sad ad cap i n) ((l.drop i).flatMap f) := by
  have := h.slice hf hc i l.length
  rwa [List.take_of_length_le (by simp)] at this
theorem fL_ {α : Type} {l : List α} {x : α} {i : Nat} (hp : l[i]? = some x) : l.drop i = x :: l.drop (i + 1) := by
  have hi := (List.getElem?_eq_some_iff.1 hp).1
  rw [List.getElem?_eq_getElem hi] at hp
  simp only [Option.some.injEq] at hp
  subst hp
  exact List.drop_eq_getElem_cons hi
theorem iI_ {α : Type} {l : List α} {x d : α} (hp : l[0]? = some x) : l.headD d = x := by cases l <;> simp_all
end Go.Sx
namespace Go.Vs
open Go Go.Sx
namespace Ax
def chainP (frm : Int) (role : Str) : List Str → Str → List Pc → List Pc
  | [], _, l => l
  | r :: t, f, l =>
    let all := if t = [] then role else f ++ [46] ++ r
    chainP frm role t all (ins frm l ⟨6, [], [], [], f, r, all, 0, 0, 0⟩)
def pieces (frm : Int) (x : Ax) : List Pc :=
  if x.kind = 1 then ins frm (x.right.rightP frm (x.left.leftP frm [])) ⟨1, x.left.atom, [], x.right.atom, [], [], [], 0, 0, 0⟩
  else if x.kind = 2 then
    ins frm (x.left.rightP frm (x.right.leftP frm (ins frm (x.right.rightP frm (x.left.leftP frm [])) ⟨1, x.left.atom, [], x.right.atom, [], [], [], 0, 0, 0⟩))) ⟨1, x.right.atom, [], x.left.atom, [], [], [], 0, 0, 0⟩
  else if x.kind = 3 then ins frm (x.right.leftP frm (x.left.leftP frm [])) ⟨2, x.left.atom, x.right.atom, [33], [], [], [], 0, 0, 0⟩
  else if x.kind = 4 then ins frm (x.right.rightP frm []) ⟨4, [42], [], x.right.atom, x.role, [], [], 0, 0, 0⟩
  else if x.kind = 5 then ins frm [] ⟨5, [], [], [], x.roles.headD [], [], x.role, 0, 0, 0⟩
  else if x.kind = 6 then chainP frm x.role (x.roles.drop 1) (x.roles.headD []) []
  else if x.kind = 7 then ins frm [] ⟨7, [], [], [], x.role, [], [], 0, 0, 0⟩
  else if x.kind = 8 then ins frm (x.right.rightP frm []) ⟨1, [123] ++ x.a ++ [125], [], x.right.atom, [], [], [], 0, 0, 0⟩
  else ins frm [] ⟨3, [123] ++ x.a ++ [125], [], [123] ++ x.b ++ [125], x.role, [], [], 0, 0, 0⟩
structure Good (x : Ax) : Prop where
  k1 : 1 ≤ x.kind
  k9 : x.kind ≤ 9
  left : x.kind ≤ 3 → x.left.check = 0
  right : x.kind ≤ 4 ∨ x.kind = 8 → x.right.check = 0
  role : x.kind = 4 ∨ x.kind = 5 ∨ x.kind = 6 ∨ x.kind = 7 ∨ x.kind = 9 → bF_ x.role = true
  roles : ∀ r ∈ x.roles, bF_ r = true
  one : x.kind = 5 → x.roles.length = 1
  chain : x.kind = 6 → 2 ≤ x.roles.length ∧ x.roles.length ≤ 4
  a : x.kind = 8 ∨ x.kind = 9 → bb_ x.a = true
  b : x.kind = 9 → bb_ x.b = true
theorem good_of {x : Ax} (h : x.check = 0) : Good x := by
  unfold check at h
  split at h
  · cases h
  · rename_i hs
    split at h
    · cases h
    · rename_i hn
      split at h
      · rename_i h1; exact absurd h h1.2
      · rename_i h1
        split at h
        · rename_i h2; exact absurd h h2.2
        · rename_i h2
          clear h
          simp only [Bool.not_eq_false] at hs hn
          have hk : 1 ≤ x.kind ∧ x.kind ≤ 9 := by
            unfold shaped at hs
            split at hs
            · cases hs
            · rename_i hh; simp only [not_or] at hh; omega
          have hk' : x.kind = 1 ∨ x.kind = 2 ∨ x.kind = 3 ∨ x.kind = 4 ∨ x.kind = 5 ∨ x.kind = 6 ∨ x.kind = 7 ∨ x.kind = 8 ∨ x.kind = 9 := by omega
          unfold shaped at hs
          rw [if_neg (by omega)] at hs
          have hr : ∀ r ∈ x.roles, bF_ r = true := by
            unfold namedU at hn
            simp only [Bool.and_eq_true] at hn
            exact fun r hr => List.all_eq_true.1 hn.2 r hr
          unfold namedU at hn
          rcases hk' with e | e | e | e | e | e | e | e | e <;> simp [us, ku_, e] at hs hn h1 h2 <;>
            refine ⟨by omega, by omega, fun _ => ?_, fun _ => ?_, fun _ => ?_, hr, fun _ => ?_, fun _ => ?_, fun _ => ?_, fun _ => ?_⟩ <;>
            first | omega | assumption | exact hn.1 | exact hn.2.1 | exact hn.2.2.1 | (simp_all; done) | (exact ⟨by omega, by omega⟩)
end Ax
end Go.Vs
namespace Go.Sx
open Go
section
variable {P : Program} {N : Nf} {v0 : Vw} {H0 : Hp} {R : Exit → Act → World → Prop} {K : List Kt} {fr : Fr} {H : Hp} {Γ : List Fct}
variable {ops : Array Oper} {l : List Oper} {d : Nat} {ty : TypeId} {ps : String} {af : Array Edge}
theorem gY_ {t : TypeId} {x : Operand} {b n : Nat} (i : Nat) {T : TypeId} {fz : Nat × Nat} {us : List Value} (ha : ∀ w, (isAgg t).run P w = .ok true w) (hs : ∀ w, (sizeOf t).run P w = .ok n w) (hn : us.length = n)
    (hx : Fr.ev fr x = some (.pointer (some ⟨b, 0, none⟩))) (hi : H[i]? = some (b, .cells us.toArray T fz)) : Yld P N fr H Γ (.load t x) ty (.agg us.toArray) :=
  G_ i ha hs hx hi (by have := iC_ us; rw [hn] at this; exact this)
theorem gC_ {t : TypeId} {x y : Operand} {b n : Nat} (i : Nat) {cur : Array Value} {T : TypeId} {us : List Value} (hs : ∀ w, (sizeOf t).run P w = .ok n w) (hn : us.length = n) (h1 : us.all Value.oneCell' = true)
    (hx : Fr.ev fr x = some (.pointer (some ⟨b, 0, none⟩))) (hy : Fr.ev fr y = some (.agg us.toArray)) (hi : H[i]? = some (b, .cells cur T (0, 0))) (hc : cur.size = n)
    (hk : Ops P R N v0 H0 ops l K fr (H.set i (b, .cells us.toArray T (0, 0))) Γ) :
    Ops P R N v0 H0 ops (⟨none, .store t x y, ty, ps, af, none⟩ :: l) K fr H Γ := by
  refine ah_ i hs hx hy hi (by simp [Value.cells, hn]) (by simp [hc]) h1 ?_
  have e : (cur.toList.take 0 ++ (Value.agg us.toArray).cells.toList ++ cur.toList.drop (0 + n)).toArray = us.toArray := by
    have h5 : cur.toList.length = n := by simp [hc]
    simp [Value.cells, List.drop_of_length_le (show cur.toList.length ≤ n by omega)]
  rw [e]
  exact hk
theorem jX_ {b k : Nat} {cur : Array Value} {T : TypeId} {fz : Nat × Nat} {cs : List Value} (i : Nat) (hi : H[i]? = some (b, .cells cur T fz)) (hc : cur.toList.take k = cs) : ∀ v : Vw, v.sat H → ap_ Γ v → ∀ j u, cs[j]? = some u → v.w.cell? ((⟨b, 0, none⟩ : Addr).add j) = some u := by
  intro v h1 _ j u hj
  rw [cu_, Nat.zero_add, eo_ h1 hi]
  rw [← hc, List.getElem?_take] at hj
  split at hj
  · exact hj
  · cases hj
theorem cv_ {k : Act → World → Prop} {e : TypeId} {sz n : Nat} {sv : Value} {xs : List Value} {Hr F : Hp} (hr : bk_ e sz sv n xs Hr) (hH : H.Perm (Hr ++ F))
    (h : ∀ ad cap, sv = .slice ad n cap → n ≤ cap → cap ≤ maxLen → Ok N v0 H0 k fr F (bQ_ ad xs :: Γ)) : Ok N v0 H0 k fr H Γ := by
  rcases hr.2 with ⟨h1, h2, h3⟩ | ⟨g, cap, cur, h1, h2, h3, h4, h5, h6⟩
  · subst h1 h2 h3
    have hx : xs = [] := List.eq_nil_of_length_eq_zero (by simpa using hr.1)
    refine Y_ hH (iw_ (Γ' := bQ_ none xs :: Γ) (fun v _ hg => ⟨.inl hx, hg⟩) (h none 0 rfl (Nat.le_refl _) (Nat.zero_le _)))
  · subst h1 h2
    refine gj_ (bQ_ (some ⟨g, 0, none⟩) xs) hH (fun v i1 i2 _ => .inr ⟨g, 0, cur, e, (0, 0), rfl, i1, i2, fun j x hj => ?_⟩) (h _ cap rfl h3 h4)
    rw [← h6, List.getElem?_take] at hj
    split at hj
    · rw [Nat.zero_add]; simpa using hj
    · cases hj
end
end Go.Sx
namespace Go.Vs
open Go Go.Sx
theorem Con.one_cells (c : Con) : c.cells.all Value.oneCell' = true := hO_ c
theorem Ax.one_cells (x : Ax) : x.cells.all Value.oneCell' = true := by
  simp only [Ax.cells, List.all_cons, List.all_append, Con.one_cells]; rfl
def ev_ (ad : Option Addr) (l : List Ax) : Fct where
  p := fun v => bq_ v ad (l.flatMap Ax.cells) ∧ ∀ x ∈ l, x.mem v
  mono := fun v v' h hp => ⟨(bQ_ ad _).mono v v' h hp.1, fun x hx => x.memF.mono v v' h (hp.2 x hx)⟩
theorem lc_ (frm : Int) (l : List Pc) (p : Pc) : ins frm l p ≠ [] := by
  unfold ins
  split
  · rename_i h; intro e; rw [e] at h; simp at h
  · simp
theorem Ax.chainP_ne (frm : Int) (ro : Str) : ∀ (rs : List Str) (f : Str) (l : List Pc), rs ≠ [] ∨ l ≠ [] → Ax.chainP frm ro rs f l ≠ []
  | [], f, l, h => by rcases h with h | h; exact absurd rfl h; exact h
  | r :: t, f, l, _ => by simp only [Ax.chainP]; exact Ax.chainP_ne frm ro t _ _ (.inr (lc_ _ _ _))
theorem Ax.pieces_ne (frm : Int) {x : Ax} (G : x.Good) : x.pieces frm ≠ [] := by
  unfold Ax.pieces
  repeat' split
  all_goals first | exact lc_ _ _ _ | skip
  rename_i h6
  have := G.chain h6
  exact Ax.chainP_ne _ _ _ _ _ (.inl (by intro e; rw [List.drop_eq_nil_iff] at e; omega))
def cl_ : List Ax → Int
  | [] => 0
  | x :: l => if x.check = 0 then cl_ l else x.check
def ef_ : Nat → List Ax → List Pc → Option (List Pc)
  | _, [], p => some p
  | i, x :: l, p => if 16384 < (p ++ x.pieces i).length then none else ef_ (i + 1) l (p ++ x.pieces i)
def aO_ (l : List Ax) : List Pc × Int :=
  if 1024 < l.length then ([], 2) else if cl_ l ≠ 0 then ([], cl_ l) else match ef_ 0 l [] with | some p => (p, 0) | none => ([], 2)
theorem eL_ : ∀ (xs ys : List Ax), (∀ x ∈ xs, x.check = 0) → cl_ (xs ++ ys) = cl_ ys
  | [], _, _ => rfl
  | x :: xs, ys, h => by simp only [List.cons_append, cl_, h x (by simp), if_true]; exact eL_ xs ys fun y hy => h y (by simp [hy])
theorem dC_ : ∀ {l : List Ax}, (∀ x ∈ l, x.check = 0) → cl_ l = 0
  | [], _ => rfl
  | x :: l, h => by simp only [cl_, h x (by simp), if_true]; exact dC_ fun y hy => h y (by simp [hy])
theorem iJ_ {l : List Ax} {x : Ax} {i : Nat} (hx : l[i]? = some x) (h : ∀ y ∈ l.take i, y.check = 0) (hb : x.check ≠ 0) : cl_ l = x.check := by
  have e : l = l.take i ++ x :: l.drop (i + 1) := by rw [← fL_ hx, List.take_append_drop]
  rw [e, eL_ _ _ h]
  simp only [cl_, hb, if_false]
theorem gA_ (frm : Int) {x : Ax} (G : x.Good) : (x.pieces frm).length ≤ 1000 := by
  have hl : x.kind ≤ 3 → x.left.sz ≤ 64 := fun h => (Con.check_zero (G.left h)).2
  have hr : x.kind ≤ 4 ∨ x.kind = 8 → x.right.sz ≤ 64 := fun h => (Con.check_zero (G.right h)).2
  have hc : ∀ (ro : Str) (rs : List Str) (f : Str) (l : List Pc), (Ax.chainP frm ro rs f l).length ≤ l.length + rs.length := by
    intro ro rs
    induction rs with
    | nil => intro f l; simp [Ax.chainP]
    | cons r t ih =>
      intro f l
      simp only [Ax.chainP]
      have h1 := ih (if t = [] then ro else f ++ [46] ++ r) (ins frm l ⟨6, [], [], [], f, r, if t = [] then ro else f ++ [46] ++ r, 0, 0, 0⟩)
      have h2 := aY_ frm l ⟨6, [], [], [], f, r, if t = [] then ro else f ++ [46] ++ r, 0, 0, 0⟩
      simp only [List.length_cons]
      omega
  have L := fun (c : Con) l => Con.leftP_len frm _ c (Nat.le_refl _) l
  have Rr := fun (c : Con) l => Con.rightP_len frm _ c (Nat.le_refl _) l
  have h0 : ([] : List Pc).length = 0 := rfl
  unfold Ax.pieces
  split
  · have := hl (by omega); have := hr (by omega)
    have a1 := L x.left []; have a2 := Rr x.right (x.left.leftP frm []); have a3 := aY_ frm (x.right.rightP frm (x.left.leftP frm [])) ⟨1, x.left.atom, [], x.right.atom, [], [], [], 0, 0, 0⟩
    omega
  · split
    · have := hl (by omega); have := hr (by omega)
      have a1 := L x.left []; have a2 := Rr x.right (x.left.leftP frm []); have a3 := aY_ frm (x.right.rightP frm (x.left.leftP frm [])) ⟨1, x.left.atom, [], x.right.atom, [], [], [], 0, 0, 0⟩
      have a4 := L x.right (ins frm (x.right.rightP frm (x.left.leftP frm [])) ⟨1, x.left.atom, [], x.right.atom, [], [], [], 0, 0, 0⟩)
      have a5 := Rr x.left (x.right.leftP frm (ins frm (x.right.rightP frm (x.left.leftP frm [])) ⟨1, x.left.atom, [], x.right.atom, [], [], [], 0, 0, 0⟩))
      have a6 := aY_ frm (x.left.rightP frm (x.right.leftP frm (ins frm (x.right.rightP frm (x.left.leftP frm [])) ⟨1, x.left.atom, [], x.right.atom, [], [], [], 0, 0, 0⟩))) ⟨1, x.right.atom, [], x.left.atom, [], [], [], 0, 0, 0⟩
      omega
    · split
      · have := hl (by omega); have := hr (by omega)
        have a1 := L x.left []; have a2 := L x.right (x.left.leftP frm []); have a3 := aY_ frm (x.right.leftP frm (x.left.leftP frm [])) ⟨2, x.left.atom, x.right.atom, [33], [], [], [], 0, 0, 0⟩
        omega
      · split
        · have := hr (by omega)
          have a1 := Rr x.right []; have a3 := aY_ frm (x.right.rightP frm []) ⟨4, [42], [], x.right.atom, x.role, [], [], 0, 0, 0⟩
          omega
        · split
          · have := aY_ frm [] ⟨5, [], [], [], x.roles.headD [], [], x.role, 0, 0, 0⟩; omega
          · split
            · rename_i h6
              have := G.chain h6
              have := hc x.role (x.roles.drop 1) (x.roles.headD []) []
              simp only [List.length_drop] at this
              omega
            · split
              · have := aY_ frm [] ⟨7, [], [], [], x.role, [], [], 0, 0, 0⟩; omega
              · split
                · have := hr (by omega)
                  have a1 := Rr x.right []; have a3 := aY_ frm (x.right.rightP frm []) ⟨1, [123] ++ x.a ++ [125], [], x.right.atom, [], [], [], 0, 0, 0⟩
                  omega
                · have := aY_ frm [] ⟨3, [123] ++ x.a ++ [125], [], [123] ++ x.b ++ [125], x.role, [], [], 0, 0, 0⟩; omega
end Go.Vs
namespace Go.Vs
open Go Go.Sx
def bC_ (c : UInt8) : Str → List Str
  | [] => [[]]
  | b :: s => if b = c then [] :: bC_ c s else match bC_ c s with
    | h :: t => (b :: h) :: t
    | [] => [[b]]
def cF_ (c : UInt8) (s : Str) : Nat := s.countP (· == c)
theorem hb_ (c : UInt8) : ∀ s, bC_ c s ≠ []
  | [] => by simp [bC_]
  | b :: s => by
    simp only [bC_]
    split
    · simp
    · split <;> simp
theorem du_ (c : UInt8) : ∀ s, (bC_ c s).length = cF_ c s + 1
  | [] => by simp [bC_, cF_]
  | b :: s => by
    have ih := du_ c s
    simp only [bC_]
    by_cases h : b = c
    · simp only [h, if_true, List.length_cons, ih, cF_, List.countP_cons, beq_self_eq_true]
    · simp only [h, if_false]
      cases hs : bC_ c s with
      | nil => exact absurd hs (hb_ c s)
      | cons x t =>
        rw [hs] at ih
        simp only [List.length_cons] at ih ⊢
        simp only [cF_, List.countP_cons, beq_iff_eq, h, if_false, Nat.add_zero] at ih ⊢
        exact ih
theorem eP_ {c : UInt8} : ∀ {s : Str}, ixS c s = none → bC_ c s = [s]
  | [], _ => rfl
  | b :: s, h => by
    simp only [ixS] at h
    split at h
    · cases h
    · rename_i hb
      have hs : ixS c s = none := by simpa using h
      simp only [bC_, hb, if_false, eP_ hs]
theorem eO_ {c : UInt8} : ∀ {s : Str} {k : Nat}, ixS c s = some k → bC_ c s = s.take k :: bC_ c (s.drop (k + 1))
  | [], k, h => by simp [ixS] at h
  | b :: s, k, h => by
    simp only [ixS] at h
    split at h
    · rename_i hb
      simp only [Option.some.injEq] at h
      subst h
      simp [bC_, hb]
    · rename_i hb
      cases hx : ixS c s with
      | none => rw [hx] at h; simp at h
      | some j =>
        rw [hx] at h
        simp only [Option.map_some, Option.some.injEq] at h
        subst h
        simp only [bC_, hb, if_false, eO_ hx, List.take_succ_cons, List.drop_succ_cons]
theorem km_ {c : UInt8} {s : Str} (h : ixS c s = none) : cF_ c s = 0 := by
  have := du_ c s
  rw [eP_ h] at this
  simpa using this.symm
theorem ho_ {c : UInt8} {s : Str} {k : Nat} (h : ixS c s = some k) : cF_ c s = cF_ c (s.drop (k + 1)) + 1 := by
  have h1 := du_ c s
  rw [eO_ h] at h1
  simp only [List.length_cons, du_] at h1
  omega
theorem jB_ (c : UInt8) (s : Str) : cF_ c s ≤ s.length := List.countP_le_length
def bo_ (s : Str) : Bool :=
  if s = [42] ∨ s = [33] then true
  else if 2 ≤ s.length ∧ s[0]? = some 123 ∧ s[s.length - 1]? = some 125 then bb_ ((s.drop 1).take (s.length - 1 - 1))
  else if 3 ≤ s.length ∧ s[0]? = some 60 ∧ s[s.length - 1]? = some 62 then true
  else bb_ s
def df_ (s : Str) : Bool := decide ((bC_ 46 s).length ≤ 4) && !((bC_ 46 s).any fun r => !bb_ r)
def cd_ (used : Bool) (s : Str) (q : Str → Bool) : Bool := (used && q s) || (!used && (s == []))
def Pc.valid (p : Pc) : Bool :=
  if p.kind < 1 ∨ 9 < p.kind ∨ p.frm < -1 ∨ 1024 ≤ p.frm then false
  else if (nus p.kind).numbers = true ∧ (p.lo < -1099511627776 ∨ p.hi < p.lo ∨ 1099511627776 < p.hi) then false
  else if (nus p.kind).numbers = false ∧ (p.lo ≠ 0 ∨ p.hi ≠ 0) then false
  else ((((cd_ (nus p.kind).a p.a bo_ && cd_ (nus p.kind).b p.b bo_) && cd_ (nus p.kind).c p.c bo_) && cd_ (nus p.kind).r p.r (if (nus p.kind).numbers then bb_ else df_)) && cd_ (nus p.kind).s p.s df_) && cd_ (nus p.kind).t p.t df_
structure Pc.sm (p : Pc) : Prop where
  a : p.a.length ≤ 17592186044414
  b : p.b.length ≤ 17592186044414
  c : p.c.length ≤ 17592186044414
  r : p.r.length ≤ 17592186044414
  s : p.s.length ≤ 17592186044414
  t : p.t.length ≤ 17592186044414
def Pc.smB (p : Pc) : Bool := Nat.ble p.a.length 17592186044414 && (Nat.ble p.b.length 17592186044414 && (Nat.ble p.c.length 17592186044414 && (Nat.ble p.r.length 17592186044414 && (Nat.ble p.s.length 17592186044414 && Nat.ble p.t.length 17592186044414))))
theorem Pc.sm_all {l : List Pc} (h : l.all Pc.smB = true) : ∀ p ∈ l, p.sm := fun p hp => by
  have := List.all_eq_true.1 h p hp
  simp only [Pc.smB, Bool.and_eq_true, Nat.ble_eq] at this
  exact ⟨this.1, this.2.1, this.2.2.1, this.2.2.2.1, this.2.2.2.2.1, this.2.2.2.2.2⟩
def gS_ (l : List Pc) : Int := if 16384 < l.length then 2 else if l.all Pc.valid then 0 else 1
end Go.Vs
namespace Go.Sx
open Go
section
variable {H r r' d t : Hp} {b : Nat × Obj} {O : Hp}
theorem S_ : H.Perm ([] ++ H) := .refl _
theorem h_ : (b :: r).Perm ([b] ++ r) := .refl _
theorem W_ : (O ++ r).Perm (O ++ r) := .refl _
theorem i_ (h : H.Perm (t ++ r)) : (b :: H).Perm (t ++ (b :: r)) := (h.cons b).trans List.perm_middle.symm
theorem w_ (h : H.Perm (t ++ r)) : (O ++ H).Perm (t ++ (O ++ r)) := (List.Perm.append_left O h).trans (by
  rw [← List.append_assoc, ← List.append_assoc]
  exact List.Perm.append_right r List.perm_append_comm)
theorem j_ (h1 : H.Perm ([b] ++ r)) (h2 : r.Perm (d ++ r')) : H.Perm ((b :: d) ++ r') := h1.trans (h2.cons b)
theorem ak_ (h1 : H.Perm (O ++ r)) (h2 : r.Perm (d ++ r')) : H.Perm ((O ++ d) ++ r') := by
  rw [List.append_assoc]
  exact h1.trans (List.Perm.append_left O h2)
theorem aQ_ : H.Perm (H ++ []) := by rw [List.append_nil]
end
theorem hW_ : ∀ xs : List (List UInt8), xs.flatMap cn_ = xs.map str
  | [] => rfl
  | x :: xs => by simp only [List.flatMap_cons, hW_ xs, List.map_cons]; rfl
section
variable {P : Program} {N : Nf} {v0 : Vw} {H0 : Hp} {R : Exit → Act → World → Prop} {K : List Kt} {fr : Fr} {H : Hp} {Γ : List Fct}
theorem at_ {k : Act → World → Prop} {b : Nat} {cs : List Value} {T : TypeId} {fz : Nat × Nat} {F : Hp} (xs : List Value) (hH : H.Perm ([(b, .cells cs.toArray T fz)] ++ F)) (hx : cs = xs) (h : Ok N v0 H0 k fr F (bQ_ (some ⟨b, 0, none⟩) xs :: Γ)) : Ok N v0 H0 k fr H Γ :=
  gj_ (bQ_ (some ⟨b, 0, none⟩) xs) hH (fun v h1 h2 _ => .inr ⟨b, 0, cs.toArray, T, fz, rfl, h1, h2, fun j x hj => by rw [Nat.zero_add, hx]; simpa using hj⟩) h
theorem satNil {v : Vw} (h : v.sat H) : v.sat [] := ⟨(fun _ h => by cases h), (by simp), h.lt⟩
variable {ops : Array Oper} {l : List Oper} {d : Nat} {ty : TypeId} {ps : String} {af : Array Edge}
theorem lq_ {x y : Operand} {t t' : TypeId} {m n : Int} (hx : Fr.ev fr x = some (.int .i64 m)) (hy : Fr.ev fr y = some (.int .i64 n)) :
    Yld P N fr H Γ (.call ⟨.builtin .min, #[x, y], #[t, t']⟩) ty (.int .i64 (if n < m then n else m)) :=
  fun a v h1 h2 _ _ _ _ => by simp [execOp, resolve, invoke, builtin, Builtin.min_, Builtin.min2, h1.ev hx, h1.ev hy]
theorem lp_ {t t' : TypeId} {x y : Operand} {m n : Int} (hx : Fr.ev fr x = some (.int .i64 m)) (hy : Fr.ev fr y = some (.int .i64 n)) (hn : n ≠ 0) (hw : IntKind.wrap .i64 (m.tdiv n) = m.tdiv n) :
    Yld P N fr H Γ (.binOp .quo t x y t') ty (.int .i64 (m.tdiv n)) :=
  fun a v h1 _ _ _ _ _ => by simp [execOp, h1.ev hx, h1.ev hy, eqGuard, binOp, Op.intDiv, hn, hw]
theorem lG_ (z : Value) (n : Nat) : madeCells #[z] (n * 1) = (List.replicate n z).toArray := by
  unfold madeCells
  apply Array.ext
  · simp
  · intro i h1 h2
    simp at h1 h2 ⊢
    have : i % 1 = 0 := Nat.mod_one i
    simp [this]
theorem jY_ {t e : TypeId} {x y : Operand} {n by' : Nat} {z : Value} (ht : P.underlying t = some (.slice e)) (hi : (P.info? e).map (fun i => (i.zero, i.size, i.bytes)) = some (some z, 1, by')) (hz : z.cells = #[z]) (hx : Fr.ev fr x = some (.int .i64 (n : Int))) (hy : Fr.ev fr y = some (.int .i64 (n : Int)))
    (hb : by' * n ≤ 281474976710656) (h63 : n ≤ 9223372036854775807) (hN : Nat.blt d N.n = true)
    (hk : ∀ b, Ops P R N v0 H0 ops l K ((d, .slice (some ⟨b, 0, none⟩) n n) :: fr) ((b, .cells (List.replicate n z).toArray e (0, 0)) :: H) Γ) : Ops P R N v0 H0 ops (⟨some d, .makeSlice t x y, ty, ps, af, none⟩ :: l) K fr H Γ := by
  refine fC_ (x := fun b => .slice (some ⟨b, 0, none⟩) n n) hN (fun a v h1 _ _ => ?_) hk
  cases h : P.info? e with
  | none => rw [h] at hi; cases hi
  | some i =>
    rw [h] at hi
    simp only [Option.map_some, Option.some.injEq, Prod.mk.injEq] at hi
    have hb' : (i.bytes : Int) * (n : Int) ≤ 281474976710656 := by
      rw [hi.2.2]
      have h : ((by' * n : Nat) : Int) ≤ 281474976710656 := by omega
      rwa [Int.natCast_mul] at h
    have hr := run_make (P := P) v.w t e i z ht h hi.1 .i64 .i64 (n : Int) (n : Int) (by omega) (Int.le_refl _) hb' (by omega)
    rw [hi.2.1, hz, Int.toNat_natCast, lG_] at hr
    simp only [execOp, h1.ev hx, h1.ev hy]
    simp [hr]
theorem gD_ {t : TypeId} {x y : Operand} {b off : Nat} (i : Nat) {l1 l2 : List Value} {z u : Value} {T : TypeId} (hs : ∀ w, (sizeOf t).run P w = .ok 1 w)
    (hx : Fr.ev fr x = some (.pointer (some ⟨b, off, none⟩))) (hy : Fr.ev fr y = some u) (hi : H[i]? = some (b, .cells (l1 ++ z :: l2).toArray T (0, 0))) (ho : off = l1.length) (hu : u.cells = #[u]) (h1c : u.oneCell' = true)
    (hk : Ops P R N v0 H0 ops l K fr (H.set i (b, .cells (l1 ++ u :: l2).toArray T (0, 0))) Γ) :
    Ops P R N v0 H0 ops (⟨none, .store t x y, ty, ps, af, none⟩ :: l) K fr H Γ := by
  subst ho
  refine ah_ i hs hx hy hi (by rw [hu]; rfl) (by simp) (by rw [hu]; simpa using h1c) ?_
  have e : (((l1 ++ z :: l2).toArray.toList.take l1.length ++ u.cells.toList ++ (l1 ++ z :: l2).toArray.toList.drop (l1.length + 1)).toArray) = (l1 ++ u :: l2).toArray := by
    rw [hu]
    have e2 : (l1 ++ z :: l2).drop (l1.length + 1) = l2 := by
      rw [← List.drop_drop]; simp
    simp [e2]
  rw [e]
  exact hk
theorem kG_ {b cap n : Nat} : sad (some ⟨b, 0, none⟩) cap 0 n = some ⟨b, 0, none⟩ := by unfold sad; split <;> simp [cu_]
end
end Go.Sx
namespace Go.Sx
open Go
section
variable {P : Program} {N : Nf} {v0 : Vw} {H0 : Hp} {R : Exit → Act → World → Prop} {K : List Kt} {fr : Fr} {H : Hp} {Γ : List Fct}
variable {ops : Array Oper} {l : List Oper} {d : Nat} {ty : TypeId} {ps : String} {af : Array Edge}
theorem bu_ {x y : Operand} {t e : TypeId} {sz by' n m c : Nat} {sv : Value} {xs news : List Value} {Hr F : Hp} {ad : Option Addr} (he : Elt P t e sz by') (hrow : bk_ e sz sv n xs Hr)
    (hx : Fr.ev fr x = some sv) (hy : Fr.ev fr y = some (.slice ad m c)) (hz : ad = none → c = 0) (hmc : m ≤ c) (hH : H.Perm (Hr ++ F)) (hl : news.length = m * sz) (hnews : ∀ v, v.sat H → ap_ Γ v → bq_ v ad news) (h1c : ∀ u ∈ news, u.oneCell' = true)
    (h63 : n + m ≤ maxLen) (hb : (n + m) * by' ≤ 140737488355328) (hN : Nat.blt d N.n = true)
    (hk : ∀ sv' Hr', bk_ e sz sv' (n + m) (xs ++ news) Hr' → Ops P R N v0 H0 ops l K ((d, sv') :: fr) (Hr' ++ F) Γ) :
    Ops P R N v0 H0 ops (⟨some d, .call ⟨.builtin .append, #[x, y], #[t, t]⟩, ty, ps, af, none⟩ :: l) K fr H Γ := by
  cases ad with
  | none =>
    obtain rfl := hz rfl
    obtain rfl : m = 0 := by omega
    obtain rfl : news = [] := List.eq_nil_of_length_eq_zero (by simpa using hl)
    refine dg_ rfl fun a v h1 h2 h3 h4 => ?_
    obtain ⟨i, z, hi, hz, es, eb, ez⟩ := he.info
    have g := h2.perm hH
    have ho := hrow.owns g
    have hr := run_append_owned_none (P := P) (w := v.w) 0 t ty e i sz he.und hi sv n xs ho
    unfold Oper.wp execOp
    simp only [resolve, invoke, builtin, Sem.run_bind, Sem.run_pure, Result.andThen_ok, List.map_toArray, List.map_cons, List.map_nil, h1.ev hx, h1.ev hy, hr]
    have T : v.to H v (Hr ++ F) := (Vw.to.refl v (Hr ++ F)).permL hH.symm
    exact hk sv Hr (by simpa using hrow) _ v (h1.put hN) g (h3.trans T) h4
  | some a0 =>
    refine dx_ he hrow hx hy hH hl (fun v h2 h4 j u hj => ?_) h1c h63 hb hN hk
    rcases hnews v h2 h4 with h | ⟨b, off, arr, T, fz, h1, _, h3, h5⟩
    · rw [h] at hj; simp at hj
    · rw [Option.some.injEq] at h1
      subst h1
      have := h5 j u hj
      rw [cu_]
      simp [World.cell?, h3, this]
theorem is_ {k : Act → World → Prop} {e : TypeId} {sz n : Nat} {sv : Value} {xs : List Value} {Hr F : Hp} (hr : bk_ e sz sv n xs Hr) (hH : H.Perm (Hr ++ F))
    (h : ∀ ad cap, sv = .slice ad n cap → n ≤ cap → cap ≤ maxLen → (ad = none → cap = 0) → Ok N v0 H0 k fr F (bQ_ ad xs :: Γ)) : Ok N v0 H0 k fr H Γ := by
  refine cv_ hr hH fun ad cap e1 e2 e3 => h ad cap e1 e2 e3 fun e4 => ?_
  rcases hr.2 with ⟨h1, _, _⟩ | ⟨g, c, cur, h1, _⟩
  · rw [h1] at e1
    simp only [Value.slice.injEq] at e1
    exact e1.2.2.symm
  · rw [h1, e4] at e1
    simp at e1
end
end Go.Sx
namespace Go.Sx
open Go
section
variable {P : Program} {N : Nf} {fr : Fr} {H : Hp} {Γ : List Fct} {ty : TypeId} {e : TypeId} {sz n : Nat} {sv : Value} {xs : List Value} {Hr F : Hp}
theorem bT_ {O Q : Hp} : List.Perm (Q ++ O) (O ++ Q) := List.perm_append_comm
theorem bh_ {O : Hp} {b : Nat × Obj} : List.Perm (b :: O) (O ++ [b]) := List.perm_append_comm (l₁ := [b])
def svB : Value → Nat
  | .slice (some a) _ _ => a.block
  | _ => 0
theorem ff_ {x : Operand} {t e' : TypeId} (hrow : bk_ e sz sv n xs Hr) (hu : ∀ w, (underlying t).run P w = .ok (.slice e') w) (hx : Fr.ev fr x = some sv) : Yld P N fr H Γ (.call ⟨.builtin .len, #[x], #[t]⟩) ty (.int .i64 (n : Int)) := by
  rcases hrow.2 with ⟨rfl, rfl, _⟩ | ⟨g, cap, cur, rfl, _⟩
  · exact ar_ hu hx
  · exact ar_ hu hx
theorem jH_ {x y : Operand} {t e' : TypeId} {k : IntKind} {i : Int} (hrow : bk_ e sz sv n xs Hr) (hu : ∀ w, (underlying t).run P w = .ok (.slice e') w) (hs : ∀ w, (sizeOf e').run P w = .ok sz w) (hx : Fr.ev fr x = some sv) (hy : Fr.ev fr y = some (.int k i)) (h0 : 0 ≤ i) (hl : i < n) :
    Yld P N fr H Γ (.indexAddr t x y) ty (.pointer (some ⟨svB sv, i.toNat * sz, none⟩)) := by
  rcases hrow.2 with ⟨_, h2, _⟩ | ⟨g, cap, cur, rfl, _⟩
  · omega
  · have := ej_ (P := P) (N := N) (H := H) (Γ := Γ) (ty := ty) hu hs hx hy h0 hl
    rw [Nat.zero_add] at this
    exact this
theorem jG_ {x : Operand} {t : TypeId} {k m : Nat} {us : List Value} (hrow : bk_ e sz sv n xs Hr) (hH : H.Perm (Hr ++ F)) (ha : ∀ w, (isAgg t).run P w = .ok true w) (hs : ∀ w, (sizeOf t).run P w = .ok m w) (hx : Fr.ev fr x = some (.pointer (some ⟨svB sv, k, none⟩)))
    (hn : us.length = m) (hp : 0 < m) (hu : ∀ j y, us[j]? = some y → xs[k + j]? = some y) : Yld P N fr H Γ (.load t x) ty (.agg us.toArray) := by
  rcases hrow.2 with ⟨_, h2, _⟩ | ⟨g, cap, cur, rfl, rfl, h3, h4, h5, h6⟩
  · subst h2
    have h1 := hrow.1
    have : xs = [] := List.eq_nil_of_length_eq_zero (by simpa using h1)
    subst this
    have := hu 0 us[0] (List.getElem?_eq_getElem (by omega))
    simp at this
  · refine eh_ hx fun v h2 _ => cZ_ ha hs hn fun j y hj => ?_
    have hb := ((h2.perm hH).own _ (List.mem_append_left _ List.mem_cons_self)).1
    have hc := hu j y hj
    rw [← h6, List.getElem?_take] at hc
    split at hc
    · have hc' : cur[k + j]? = some y := by simpa using hc
      simp only [svB, World.cell?, hb, Option.isSome_none, Bool.false_eq_true, if_false]
      exact hc'
    · cases hc
end
end Go.Sx
namespace Go.Sx
open Go
section
variable {P : Program} {N : Nf} {fr : Fr} {H : Hp} {Γ : List Fct} {ty : TypeId} {e : TypeId} {sz n : Nat} {sv : Value} {xs : List Value} {Hr F : Hp}
theorem fw_ (h : bk_ e sz sv n xs Hr) : sv.cells = #[sv] ∧ sv.oneCell' = true := by
  rcases h.2 with ⟨rfl, _⟩ | ⟨g, cap, cur, rfl, _⟩ <;> exact ⟨rfl, rfl⟩
theorem eD_ {v0 : Vw} {H0 : Hp} {R : Exit → Act → World → Prop} {K : List Kt} {ops : Array Oper} {l : List Oper} {ps : String} {af : Array Edge} {t : TypeId} {x y : Operand} {b off : Nat} (i : Nat) {cur : Array Value} {T : TypeId} (hrow : bk_ e sz sv n xs Hr) (hs : ∀ w, (sizeOf t).run P w = .ok 1 w)
    (hx : Fr.ev fr x = some (.pointer (some ⟨b, off, none⟩))) (hy : Fr.ev fr y = some sv) (hi : H[i]? = some (b, .cells cur T (0, 0))) (hf : Nat.ble (off + 1) cur.size = true)
    (hk : Ops P R N v0 H0 ops l K fr (H.set i (b, .cells (cur.toList.take off ++ [sv] ++ cur.toList.drop (off + 1)).toArray T (0, 0))) Γ) : Ops P R N v0 H0 ops (⟨none, .store t x y, ty, ps, af, none⟩ :: l) K fr H Γ :=
  ah_ i hs hx hy hi (by rw [(fw_ hrow).1]; rfl) hf (by rw [(fw_ hrow).1]; simp [(fw_ hrow).2]) (by rw [(fw_ hrow).1]; exact hk)
theorem kq_ {t t' : TypeId} {x y : Operand} {m n : Bool} (hu : P.underlying t = some .bool) (hx : Fr.ev fr x = some (.bool m)) (hy : Fr.ev fr y = some (.bool n)) : Yld P N fr H Γ (.binOp .neq t x y t') ty (.bool (m != n)) :=
  fun a v h1 _ _ _ _ _ => by simp [execOp, h1.ev hx, h1.ev hy, eqGuard, binOp, run_equal_bool v.w t m n hu, bne]
theorem ck_ {α : Type} {f : α → List Value} (hf : ∀ x, (f x).all Value.oneCell' = true) {l : List α} {u : Value} (h : u ∈ l.flatMap f) : u.oneCell' = true := by
  obtain ⟨y, _, hy⟩ := List.mem_flatMap.1 h
  exact List.all_eq_true.1 (hf y) u hy
end
end Go.Sx
namespace Go.Vs
open Go Go.Sx
def jL_ (a c : Str) : Pc := ⟨1, a, [], c, [], [], [], 0, 0, 0⟩
def aZ_ (frm : Int) : List Str → List Pc → List Pc
  | [], l => l
  | a :: r, l => aZ_ frm r (ins frm l (jL_ a [42]))
theorem dj_ (frm : Int) : ∀ (r : List Str) (l : List Pc), (aZ_ frm r l).length ≤ l.length + r.length
  | [], l => by simp [aZ_]
  | a :: r, l => by
    have h1 := dj_ frm r (ins frm l (jL_ a [42]))
    have h2 := aY_ frm l (jL_ a [42])
    simp only [aZ_, List.length_cons]
    omega
theorem fE_ (frm : Int) : ∀ (xs ys : List Str) (l : List Pc), aZ_ frm (xs ++ ys) l = aZ_ frm ys (aZ_ frm xs l)
  | [], _, _ => rfl
  | x :: xs, ys, l => by simp only [List.cons_append, aZ_]; exact fE_ frm xs ys _
theorem jc_ (frm : Int) {xs : List Str} {a : Str} {i : Nat} (hp : xs[i]? = some a) (l : List Pc) : aZ_ frm (xs.take (i + 1)) l = ins frm (aZ_ frm (xs.take i) l) (jL_ a [42]) := by
  rw [List.take_add_one, hp, Option.toList_some, fE_]; rfl
def cW_ (s : Str) : Str := [123] ++ s ++ [125]
def Ax.disj (x : Ax) : Str := [60] ++ x.left.operandN ++ [32, 97, 110, 100, 32] ++ x.right.operandN ++ [62]
def Ax.doms (x : Ax) : Str := [60, 115, 111, 109, 101, 32] ++ x.role ++ [32, 101, 118, 101, 114, 121, 116, 104, 105, 110, 103, 62]
def Ax.goalP (x : Ax) : List Pc × List Fc × Int :=
  if x.check ≠ 0 then ([], [], x.check)
  else if x.kind = 1 then (x.right.leftP (-1) (x.left.rightP (-1) (aZ_ (-1) [x.left.atom, x.right.atom] [])), [⟨1, x.left.atom, x.right.atom, [], 0, 0⟩], 0)
  else if x.kind = 2 then (x.left.leftP (-1) (x.right.rightP (-1) (x.right.leftP (-1) (x.left.rightP (-1) (aZ_ (-1) [x.left.atom, x.right.atom] [])))), [⟨1, x.left.atom, x.right.atom, [], 0, 0⟩, ⟨1, x.right.atom, x.left.atom, [], 0, 0⟩], 0)
  else if x.kind = 3 then (x.right.rightP (-1) (ins (-1) (x.left.rightP (-1) (ins (-1) (aZ_ (-1) [x.disj, [33]] []) (jL_ x.disj x.left.atom))) (jL_ x.disj x.right.atom)), [⟨1, x.disj, [33], [], 0, 0⟩], 0)
  else if x.kind = 4 then (x.right.leftP (-1) (ins (-1) (aZ_ (-1) [x.doms, x.right.atom] []) ⟨3, x.doms, [], [42], x.role, [], [], 0, 0, 0⟩), [⟨1, x.doms, x.right.atom, [], 0, 0⟩], 0)
  else if x.kind = 8 then (x.right.leftP (-1) (aZ_ (-1) [cW_ x.a, x.right.atom] []), [⟨1, cW_ x.a, x.right.atom, [], 0, 0⟩], 0)
  else if x.kind = 9 then (aZ_ (-1) [cW_ x.a, cW_ x.b] [], [⟨2, cW_ x.a, cW_ x.b, x.role, 0, 0⟩], 0)
  else ([], [], 22)
theorem Con.operandN_len {c : Con} (hok : c.ok) : c.operandN.length ≤ 6402 := by
  have := Con.textN_len hok
  unfold operandN
  split <;> simp <;> omega
end Go.Vs
namespace Go.Proofs
open Go.Shelf
def Tryz.lays156_ren : Go.Shelf.Ren := ⟨fun | 156 => 143 | 165 => 167 | 166 => 168 | 169 => 169 | 240 => 182 | 241 => 183 | 276 => 193 | 277 => 194 | n => n, fun | 31 => 39 | 9 => 9 | 3 => 3 | 4 => 4 | 0 => 0 | 20 => 20 | 72 => 186 | 76 => 190 | 70 => 184 | 37 => 167 | 75 => 189 | 127 => 199 | 164 => 209 | 5 => 5 | 80 => 192 | n => n, fun | n => n⟩
theorem Tryz.lays156 : Go.Proofs.Lays.n156 Tryz.prog Tryz.lays156_ren := {
 mixed := by kernel_rfl
 f156 := Tryz.func143.trans (congrArg some (by kernel_rfl))
 f165 := Tryz.func167.trans (congrArg some (by kernel_rfl))
 f166 := Tryz.func168.trans (congrArg some (by kernel_rfl))
 f169 := Tryz.func169.trans (congrArg some (by kernel_rfl))
 f240 := Tryz.func182.trans (congrArg some (by kernel_rfl))
 f241 := Tryz.func183.trans (congrArg some (by kernel_rfl))
 f276 := Tryz.func193.trans (congrArg some (by kernel_rfl))
 f277 := Tryz.func194.trans (congrArg some (by kernel_rfl))
 t0 := Tryz.underlying0
 a0 := Tryz.isAgg0
 z0 := Tryz.sizeOf0
 v0 := Tryz.zeroValue0
 t3 := Tryz.underlying3
 a3 := Tryz.isAgg3
 z3 := Tryz.sizeOf3
 v3 := Tryz.zeroValue3
 t4 := Tryz.underlying4
 a4 := Tryz.isAgg4
 z4 := Tryz.sizeOf4
 v4 := Tryz.zeroValue4
 t9 := Tryz.underlying9
 a9 := Tryz.isAgg9
 z9 := Tryz.sizeOf9
 v9 := Tryz.zeroValue9
 t20 := Tryz.underlying20
 a20 := Tryz.isAgg20
 z20 := Tryz.sizeOf20
 v20 := Tryz.zeroValue20
 t31 := Tryz.underlying39
 a31 := Tryz.isAgg39
 z31 := Tryz.sizeOf39
 v31 := Tryz.zeroValue39
 t37 := Tryz.underlying167
 a37 := Tryz.isAgg167
 z37 := Tryz.sizeOf167
 v37 := Tryz.zeroValue167
 t70 := Tryz.underlying184
 a70 := Tryz.isAgg184
 z70 := Tryz.sizeOf184
 v70 := Tryz.zeroValue184
 t72 := Tryz.underlying186
 a72 := Tryz.isAgg186
 z72 := Tryz.sizeOf186
 v72 := Tryz.zeroValue186
 t75 := Tryz.underlying189
 a75 := Tryz.isAgg189
 z75 := Tryz.sizeOf189
 v75 := Tryz.zeroValue189
 t76 := Tryz.underlying190
 a76 := Tryz.isAgg190
 z76 := Tryz.sizeOf190
 v76 := Tryz.zeroValue190
 t127 := Tryz.underlying199
 a127 := Tryz.isAgg199
 z127 := Tryz.sizeOf199
 v127 := Tryz.zeroValue199
 t164 := Tryz.underlying209
 a164 := Tryz.isAgg209
 z164 := Tryz.sizeOf209
 v164 := Tryz.zeroValue209 }
theorem Tryz.Builder_Extra_156 : Builder.Extra Tryz.prog Tryz.lays156_ren := {
  sizeBuilder := by kernel_rfl
  liesBuilder := by kernel_rfl
  t5 := Tryz.underlying5
  a5 := Tryz.isAgg5
  z5 := Tryz.sizeOf5
  v5 := Tryz.zeroValue5
  infoByte := by kernel_rfl
  cellsByte := by kernel_rfl
  sizeByte := by kernel_rfl
  neB5 := by decide }
open Go.RowKit in
theorem Tryz.strings_Join (bk o c : Nat) (xs : List ByteArray) (sep : ByteArray) (w : World) (hcells : ∀ (j : Nat) x, xs[j]? = some x → w.cell? ⟨bk, o + j, none⟩ = some (.string x)) (hbk : bk < w.heap.size) (hN : xs.length ≤ 140737488355328) (hcap : xs.length ≤ c) (hlen : (Lib.join (xs.map (·.data.toList)) sep.data.toList).length ≤ 140737488355328) :
    Calls Tryz.prog 143 #[.slice (some ⟨bk, o, none⟩) xs.length c, .string sep] w fun e w' => e = .returned (.string ⟨(Lib.join (xs.map (·.data.toList)) sep.data.toList).toArray⟩) ∧ Below w.heap.size w w' := Any.strings_Join Tryz.lays156 Tryz.Builder_Extra_156 bk o c xs sep w hcells hbk hN hcap hlen
open Go.RowKit in
def Tryz.laysM171_ren : Go.Shelf.Ren := ⟨fun | 171 => 145 | 243 => 170 | 246 => 184 | 283 => 195 | 284 => 196 | 285 => 197 | 286 => 198 | 129 => 161 | 317 => 202 | 318 => 203 | 319 => 204 | 320 => 205 | 337 => 206 | 338 => 207 | n => n, fun | 3 => 3 | 9 => 9 | 2 => 2 | 4 => 4 | 171 => 212 | 0 => 0 | 53 => 181 | 37 => 167 | 5 => 5 | 173 => 214 | 212 => 219 | 51 => 179 | 20 => 20 | 213 => 220 | 46 => 153 | 232 => 225 | 233 => 226 | n => n, fun | 17 => 4 | 18 => 7 | 19 => 8 | n => n⟩
theorem Tryz.laysM171 : Go.Proofs.LaysM.n171 Tryz.prog Tryz.laysM171_ren := {
 mixed := by kernel_rfl
 f129 := Tryz.func161.trans (congrArg some (by kernel_rfl))
 f171 := Tryz.func145.trans (congrArg some (by kernel_rfl))
 f243 := Tryz.func170.trans (congrArg some (by kernel_rfl))
 f246 := Tryz.func184.trans (congrArg some (by kernel_rfl))
 f283 := Tryz.func195.trans (congrArg some (by kernel_rfl))
 f284 := Tryz.func196.trans (congrArg some (by kernel_rfl))
 f285 := Tryz.func197.trans (congrArg some (by kernel_rfl))
 f286 := Tryz.func198.trans (congrArg some (by kernel_rfl))
 f317 := Tryz.func202.trans (congrArg some (by kernel_rfl))
 f318 := Tryz.func203.trans (congrArg some (by kernel_rfl))
 f319 := Tryz.func204.trans (congrArg some (by kernel_rfl))
 f320 := Tryz.func205.trans (congrArg some (by kernel_rfl))
 f337 := Tryz.func206.trans (congrArg some (by kernel_rfl))
 f338 := Tryz.func207.trans (congrArg some (by kernel_rfl))
 t0 := Tryz.underlying0
 a0 := Tryz.isAgg0
 z0 := Tryz.sizeOf0
 v0 := Tryz.zeroValue0
 t2 := Tryz.underlying2
 a2 := Tryz.isAgg2
 z2 := Tryz.sizeOf2
 v2 := Tryz.zeroValue2
 t3 := Tryz.underlying3
 a3 := Tryz.isAgg3
 z3 := Tryz.sizeOf3
 v3 := Tryz.zeroValue3
 t4 := Tryz.underlying4
 a4 := Tryz.isAgg4
 z4 := Tryz.sizeOf4
 v4 := Tryz.zeroValue4
 t5 := Tryz.underlying5
 a5 := Tryz.isAgg5
 z5 := Tryz.sizeOf5
 v5 := Tryz.zeroValue5
 t9 := Tryz.underlying9
 a9 := Tryz.isAgg9
 z9 := Tryz.sizeOf9
 v9 := Tryz.zeroValue9
 t20 := Tryz.underlying20
 a20 := Tryz.isAgg20
 z20 := Tryz.sizeOf20
 v20 := Tryz.zeroValue20
 t37 := Tryz.underlying167
 a37 := Tryz.isAgg167
 z37 := Tryz.sizeOf167
 v37 := Tryz.zeroValue167
 t46 := Tryz.underlying153
 a46 := Tryz.isAgg153
 z46 := Tryz.sizeOf153
 v46 := Tryz.zeroValue153
 t51 := Tryz.underlying179
 a51 := Tryz.isAgg179
 z51 := Tryz.sizeOf179
 v51 := Tryz.zeroValue179
 t53 := Tryz.underlying181
 a53 := Tryz.isAgg181
 z53 := Tryz.sizeOf181
 v53 := Tryz.zeroValue181
 t171 := Tryz.underlying212
 a171 := Tryz.isAgg212
 z171 := Tryz.sizeOf212
 v171 := Tryz.zeroValue212
 t173 := Tryz.underlying214
 a173 := Tryz.isAgg214
 z173 := Tryz.sizeOf214
 v173 := Tryz.zeroValue214
 t212 := Tryz.underlying219
 a212 := Tryz.isAgg219
 z212 := Tryz.sizeOf219
 v212 := Tryz.zeroValue219
 t213 := Tryz.underlying220
 a213 := Tryz.isAgg220
 z213 := Tryz.sizeOf220
 t232 := Tryz.underlying225
 a232 := Tryz.isAgg225
 z232 := Tryz.sizeOf225
 v232 := Tryz.zeroValue225
 t233 := Tryz.underlying226
 a233 := Tryz.isAgg226
 z233 := Tryz.sizeOf226
 v233 := Tryz.zeroValue226
 g17 := by kernel_rfl
 g18 := by kernel_rfl
 g19 := by kernel_rfl
 i0 := by kernel_rfl
 i2 := by kernel_rfl
 i3 := by kernel_rfl
 i4 := by kernel_rfl
 i5 := by kernel_rfl
 i9 := by kernel_rfl
 i20 := by kernel_rfl
 i37 := by kernel_rfl
 i46 := by kernel_rfl
 i51 := by kernel_rfl
 i53 := by kernel_rfl
 i171 := by kernel_rfl
 i173 := by kernel_rfl
 i212 := by kernel_rfl
 i232 := by kernel_rfl
 i233 := by kernel_rfl
 m17 := by kernel_rfl
 m18 := by kernel_rfl
 m19 := by kernel_rfl }
open Go.RowKit Go.Sort Go.Lib in
theorem Tryz.strconv_Itoa (n : Int) (h0 : -9223372036854775808 ≤ n) (h1 : n ≤ 9223372036854775807) (w : World) (htab : Lib.TabIs Tryz.prog w "internal/strconv.uint64pow10" .u64 Lib.pow10Tab) :
    Calls Tryz.prog 145 #[.int .i64 n] w fun e w' => e = .returned (.string ⟨(Lib.itoa n).toArray⟩) ∧ ∃ k os, w' = grow (w.drewN k) os := Any.strconv_Itoa Tryz.laysM171 n h0 h1 w htab
def Tryz.lays219_ren : Go.Shelf.Ren := ⟨fun | 219 => 172 | 217 => 185 | 225 => 186 | 224 => 187 | 267 => 188 | 266 => 199 | 314 => 200 | n => n, fun | 9 => 9 | 3 => 3 | 4 => 4 | 5 => 5 | 46 => 153 | 146 => 216 | 51 => 179 | n => n, fun | 1 => 3 | n => n⟩
theorem Tryz.lays219 : Go.Proofs.Lays.n219 Tryz.prog Tryz.lays219_ren := {
  mixed := by kernel_rfl
  f217 := Tryz.func185.trans (congrArg some (by kernel_rfl))
  f219 := Tryz.func172.trans (congrArg some (by kernel_rfl))
  f224 := Tryz.func187.trans (congrArg some (by kernel_rfl))
  f225 := Tryz.func186.trans (congrArg some (by kernel_rfl))
  f266 := Tryz.func199.trans (congrArg some (by kernel_rfl))
  f267 := Tryz.func188.trans (congrArg some (by kernel_rfl))
  f314 := Tryz.func200.trans (congrArg some (by kernel_rfl))
  t3 := Tryz.underlying3
  a3 := Tryz.isAgg3
  z3 := Tryz.sizeOf3
  v3 := Tryz.zeroValue3
  t4 := Tryz.underlying4
  a4 := Tryz.isAgg4
  z4 := Tryz.sizeOf4
  v4 := Tryz.zeroValue4
  t5 := Tryz.underlying5
  a5 := Tryz.isAgg5
  z5 := Tryz.sizeOf5
  v5 := Tryz.zeroValue5
  t9 := Tryz.underlying9
  a9 := Tryz.isAgg9
  z9 := Tryz.sizeOf9
  v9 := Tryz.zeroValue9
  t46 := Tryz.underlying153
  a46 := Tryz.isAgg153
  z46 := Tryz.sizeOf153
  v46 := Tryz.zeroValue153
  t51 := Tryz.underlying179
  a51 := Tryz.isAgg179
  z51 := Tryz.sizeOf179
  v51 := Tryz.zeroValue179
  t146 := Tryz.underlying216
  a146 := Tryz.isAgg216
  z146 := Tryz.sizeOf216
  v146 := Tryz.zeroValue216
  g1 := by kernel_rfl }
open Go.RowKit Go.Lib in
theorem Tryz.stringslite_Index_one (s : ByteArray) (c : UInt8) (w : World) :
    Calls Tryz.prog 172 #[.string s, .string ⟨#[c]⟩] w fun e w' => e = .returned (.int .i64 (Lib.indexByte s.data.toList c)) ∧ w' = w := Any.stringslite_Index_one Tryz.lays219 s c w
def Tryz.lays143_ren : Go.Shelf.Ren := ⟨fun | 143 => 181 | 219 => 172 | 217 => 185 | 225 => 186 | 224 => 187 | 267 => 188 | 266 => 199 | 314 => 200 | n => n, fun | 9 => 9 | 3 => 3 | 4 => 4 | 5 => 5 | 46 => 153 | 146 => 216 | 51 => 179 | n => n, fun | 1 => 3 | n => n⟩
theorem Tryz.lays143 : Go.Proofs.Lays.n143 Tryz.prog Tryz.lays143_ren := {
  mixed := by kernel_rfl
  f143 := Tryz.func181.trans (congrArg some (by kernel_rfl))
  f217 := Tryz.func185.trans (congrArg some (by kernel_rfl))
  f219 := Tryz.func172.trans (congrArg some (by kernel_rfl))
  f224 := Tryz.func187.trans (congrArg some (by kernel_rfl))
  f225 := Tryz.func186.trans (congrArg some (by kernel_rfl))
  f266 := Tryz.func199.trans (congrArg some (by kernel_rfl))
  f267 := Tryz.func188.trans (congrArg some (by kernel_rfl))
  f314 := Tryz.func200.trans (congrArg some (by kernel_rfl))
  t3 := Tryz.underlying3
  a3 := Tryz.isAgg3
  z3 := Tryz.sizeOf3
  v3 := Tryz.zeroValue3
  t4 := Tryz.underlying4
  a4 := Tryz.isAgg4
  z4 := Tryz.sizeOf4
  v4 := Tryz.zeroValue4
  t5 := Tryz.underlying5
  a5 := Tryz.isAgg5
  z5 := Tryz.sizeOf5
  v5 := Tryz.zeroValue5
  t9 := Tryz.underlying9
  a9 := Tryz.isAgg9
  z9 := Tryz.sizeOf9
  v9 := Tryz.zeroValue9
  t46 := Tryz.underlying153
  a46 := Tryz.isAgg153
  z46 := Tryz.sizeOf153
  v46 := Tryz.zeroValue153
  t51 := Tryz.underlying179
  a51 := Tryz.isAgg179
  z51 := Tryz.sizeOf179
  v51 := Tryz.zeroValue179
  t146 := Tryz.underlying216
  a146 := Tryz.isAgg216
  z146 := Tryz.sizeOf216
  v146 := Tryz.zeroValue216
  g1 := by kernel_rfl }
open Go.RowKit Go.Lib in
theorem Tryz.strings_Index_one (s : ByteArray) (c : UInt8) (w : World) :
    Calls Tryz.prog 181 #[.string s, .string ⟨#[c]⟩] w fun e w' => e = .returned (.int .i64 (Lib.indexByte s.data.toList c)) ∧ w' = w := Any.strings_Index_one Tryz.lays143 s c w
def Tryz.lays138_ren : Go.Shelf.Ren := ⟨fun | 138 => 180 | 195 => 190 | 218 => 192 | 143 => 181 | 219 => 172 | 217 => 185 | 225 => 186 | 224 => 187 | 267 => 188 | 266 => 199 | 314 => 200 | n => n, fun | 9 => 9 | 3 => 3 | 4 => 4 | 5 => 5 | 0 => 0 | 46 => 153 | 146 => 216 | 51 => 179 | n => n, fun | 1 => 3 | n => n⟩
theorem Tryz.lays138 : Go.Proofs.Lays.n138 Tryz.prog Tryz.lays138_ren := {
 mixed := by kernel_rfl
 f138 := Tryz.func180.trans (congrArg some (by kernel_rfl))
 f143 := Tryz.func181.trans (congrArg some (by kernel_rfl))
 f195 := Tryz.func190.trans (congrArg some (by kernel_rfl))
 f217 := Tryz.func185.trans (congrArg some (by kernel_rfl))
 f218 := Tryz.func192.trans (congrArg some (by kernel_rfl))
 f219 := Tryz.func172.trans (congrArg some (by kernel_rfl))
 f224 := Tryz.func187.trans (congrArg some (by kernel_rfl))
 f225 := Tryz.func186.trans (congrArg some (by kernel_rfl))
 f266 := Tryz.func199.trans (congrArg some (by kernel_rfl))
 f267 := Tryz.func188.trans (congrArg some (by kernel_rfl))
 f314 := Tryz.func200.trans (congrArg some (by kernel_rfl))
 t0 := Tryz.underlying0
 a0 := Tryz.isAgg0
 z0 := Tryz.sizeOf0
 v0 := Tryz.zeroValue0
 t3 := Tryz.underlying3
 a3 := Tryz.isAgg3
 z3 := Tryz.sizeOf3
 v3 := Tryz.zeroValue3
 t4 := Tryz.underlying4
 a4 := Tryz.isAgg4
 z4 := Tryz.sizeOf4
 v4 := Tryz.zeroValue4
 t5 := Tryz.underlying5
 a5 := Tryz.isAgg5
 z5 := Tryz.sizeOf5
 v5 := Tryz.zeroValue5
 t9 := Tryz.underlying9
 a9 := Tryz.isAgg9
 z9 := Tryz.sizeOf9
 v9 := Tryz.zeroValue9
 t46 := Tryz.underlying153
 a46 := Tryz.isAgg153
 z46 := Tryz.sizeOf153
 v46 := Tryz.zeroValue153
 t51 := Tryz.underlying179
 a51 := Tryz.isAgg179
 z51 := Tryz.sizeOf179
 v51 := Tryz.zeroValue179
 t146 := Tryz.underlying216
 a146 := Tryz.isAgg216
 z146 := Tryz.sizeOf216
 v146 := Tryz.zeroValue216
 g1 := by kernel_rfl }
open Go.RowKit Go.Lib in
theorem Tryz.strings_Count_one (s : ByteArray) (c : UInt8) (w : World) :
    Calls Tryz.prog 180 #[.string s, .string ⟨#[c]⟩] w fun e w' => e = .returned (.int .i64 (Lib.countByte s.data.toList c)) ∧ w' = w := Any.strings_Count_one Tryz.lays138 s c w
end Go.Proofs
namespace Go.Proofs.YtoafjmalfclpoaaGreatDoor
open Go Go.Sx Go.Proofs
attribute [local irreducible] Code.wp wpList wpAnyH
open Go.Vs
theorem gN_ (c : UInt8) :
  Fn0 Tryz.prog 149 #[.int .u8 (c.toNat : Int)] (.bool (dJ_ c)) := by
 refine M_ Tryz.func149 rfl rfl Tryz.ntmps149 rfl fun v0 => ?_
 refine f_ (b_ (a_ (e_ rfl) rfl (d_ (c_ rfl (f_ (b_ (a_ (g_ rfl) rfl (v_ (cy_ rfl rfl) rfl fun r1 hr1 => ?_))))))))
 refine a_ (g_ rfl) rfl ?_
 cases r1
 ·
  replace hr1 := of_decide_eq_false hr1
  refine q_ rfl rfl rfl rfl (q_ rfl rfl rfl rfl (a_ (F_ rfl rfl) rfl (a_ (g_ rfl) rfl (n_ rfl rfl (a_ (g_ rfl) rfl (n_ rfl rfl (v_ (cy_ rfl rfl) rfl fun r2 hr2 => ?_)))))))
  refine n_ rfl rfl (a_ (g_ rfl) rfl ?_)
  cases r2
  ·
   replace hr2 := of_decide_eq_false hr2
   refine q_ rfl rfl rfl rfl (q_ rfl rfl rfl rfl (n_ rfl rfl (a_ (F_ rfl rfl) rfl (a_ (F_ rfl rfl) rfl (a_ (e_ rfl) rfl (d_ (c_ rfl (B_ ?_))))))))
   exact aj_ jq_ () (y_ rfl (by subst_vars; rw [Bool.eq_iff_iff]; simp [dJ_] <;> omega)) (.refl _) (fun _ _ _ => trivial)
  ·
   replace hr2 := of_decide_eq_true hr2
   refine n_ rfl rfl (a_ (g_ rfl) rfl (n_ rfl rfl (v_ (cy_ rfl rfl) rfl fun r3 hr3 => ?_)))
   refine n_ rfl rfl (a_ (K_ rfl rfl) rfl (a_ (F_ rfl rfl) rfl (a_ (e_ rfl) rfl (d_ (c_ rfl (B_ ?_))))))
   exact aj_ jq_ () (y_ rfl (by subst_vars; rw [Bool.eq_iff_iff]; simp [dJ_] <;> omega)) (.refl _) (fun _ _ _ => trivial)
 ·
  replace hr1 := of_decide_eq_true hr1
  refine n_ rfl rfl (a_ (g_ rfl) rfl (n_ rfl rfl (v_ (cy_ rfl rfl) rfl fun r4 hr4 => ?_)))
  refine a_ (K_ rfl rfl) rfl (a_ (g_ rfl) rfl ?_)
  cases r4
  ·
   replace hr4 := of_decide_eq_false hr4
   refine n_ rfl rfl (a_ (g_ rfl) rfl (n_ rfl rfl (v_ (cy_ rfl rfl) rfl fun r5 hr5 => ?_)))
   refine n_ rfl rfl (a_ (g_ rfl) rfl ?_)
   cases r5
   ·
    replace hr5 := of_decide_eq_false hr5
    refine q_ rfl rfl rfl rfl (q_ rfl rfl rfl rfl (n_ rfl rfl (a_ (F_ rfl rfl) rfl (a_ (F_ rfl rfl) rfl (a_ (e_ rfl) rfl (d_ (c_ rfl (B_ ?_))))))))
    exact aj_ jq_ () (y_ rfl (by subst_vars; rw [Bool.eq_iff_iff]; simp [dJ_] <;> omega)) (.refl _) (fun _ _ _ => trivial)
   ·
    replace hr5 := of_decide_eq_true hr5
    refine n_ rfl rfl (a_ (g_ rfl) rfl (n_ rfl rfl (v_ (cy_ rfl rfl) rfl fun r6 hr6 => ?_)))
    refine n_ rfl rfl (a_ (K_ rfl rfl) rfl (a_ (F_ rfl rfl) rfl (a_ (e_ rfl) rfl (d_ (c_ rfl (B_ ?_))))))
    exact aj_ jq_ () (y_ rfl (by subst_vars; rw [Bool.eq_iff_iff]; simp [dJ_] <;> omega)) (.refl _) (fun _ _ _ => trivial)
  ·
   replace hr4 := of_decide_eq_true hr4
   refine q_ rfl rfl rfl rfl (q_ rfl rfl rfl rfl (q_ rfl rfl rfl rfl (q_ rfl rfl rfl rfl (q_ rfl rfl rfl rfl (q_ rfl rfl rfl rfl (a_ (K_ rfl rfl) rfl (a_ (e_ rfl) rfl (d_ (c_ rfl ?_)))))))))
   refine B_ ?_
   exact aj_ jq_ () (y_ rfl (by subst_vars; rw [Bool.eq_iff_iff]; simp [dJ_] <;> omega)) (.refl _) (fun _ _ _ => trivial)
theorem iG_ (s : Str) (hs : s.length ≤ 140737488351232) :
  Fn0 Tryz.prog 120 #[str s] (.bool (fu_ s)) := by
 refine M_ Tryz.func120 rfl rfl Tryz.ntmps120 rfl fun v0 => ?_
 refine f_ (b_ (a_ (e_ rfl) rfl (d_ (c_ rfl (f_ (f_ (b_ (a_ (g_ rfl) rfl (lC_ ag_ Tryz.runUnderlying167 Tryz.runUnderlying5 rfl rfl fun cap b1 hcap => ?_)))))))))
 refine a_ (ar_ Tryz.runUnderlying167 rfl) rfl (a_ (g_ rfl) rfl (d_ (c_ rfl (T_ (bs_ [(6, .slice (some ⟨b1, 0, none⟩) s.length cap), (7, .int .i64 (s.length : Int)), (8, .int .i64 ((0 : Nat) : Int))] ⟨rfl, rfl, rfl, trivial⟩ ?_)))))
 refine bE_ (ι := {k : Nat // k ≤ s.length ∧ (s.take k).all dH_ = true}) (fun i => [(6, .slice (some ⟨b1, 0, none⟩) s.length cap), (7, .int .i64 (s.length : Int)), (8, .int .i64 (i.1 : Int))]) (fun _ => _) (fun _ => _) (fun i => s.length - i.1) ⟨0, by simp⟩ ?_
 rintro ⟨k, hk⟩
 refine bs_ [(6, .slice (some ⟨b1, 0, none⟩) s.length cap), (7, .int .i64 (s.length : Int)), (8, .int .i64 (k : Int))] ⟨rfl, rfl, rfl, trivial⟩ ?_
 refine f_ (b_ (v_ (aN_ rfl rfl) rfl fun r1 hr1 => ?_))
 refine d_ (c_ rfl (f_ ?_))
 cases r1
 ·
  replace hr1 := of_decide_eq_false hr1
  refine r_ rfl (aU_ rfl (c_ rfl (f_ (b_ (a_ (e_ rfl) rfl (d_ (c_ rfl (B_ ?_))))))))
  exact aj_ Tryz.results120 () (y_ rfl (by rw [fu_, hr_ dH_ s k (by omega) hk.2])) (.refl _) (fun _ _ _ => trivial)
 ·
  replace hr1 := of_decide_eq_true hr1
  have hlt : k < s.length := by omega
  obtain ⟨c, hc⟩ : ∃ c, s[k]? = some c := ⟨_, List.getElem?_eq_getElem hlt⟩
  refine p_ rfl (D_ (c_ rfl (f_ (T_ (f_ (b_ (a_ (ej_ Tryz.runUnderlying167 Tryz.sizeOf5 rfl rfl (by omega) (by omega)) rfl (a_ (t_ (u := .int .u8 (c.toNat : Int)) 0 Tryz.isAgg5 rfl rfl (by rw [show 0 + ((k : Int)).toNat * 1 = k by omega]; exact kV_ hc)) rfl (a_ (e_ rfl) rfl ?_)))))))))
  refine d_ (c_ rfl (f_ (b_ (a_ (g_ rfl) rfl (al_ (gN_ c) rfl (.refl _) (fun _ _ _ => trivial) rfl fun r2 hr2 => ?_)))))
  refine a_ (bf_ rfl) rfl (a_ (g_ rfl) rfl ?_)
  cases r2
  ·
   refine n_ rfl rfl (a_ (g_ rfl) rfl (n_ rfl rfl (v_ (bO_ rfl rfl) rfl fun r3 hr3 => ?_)))
   refine a_ (K_ rfl rfl) rfl (a_ (g_ rfl) rfl ?_)
   cases r3
   ·
    replace hr3 := bA_ hr3
    refine q_ rfl rfl rfl rfl (q_ rfl rfl rfl rfl (q_ rfl rfl rfl rfl (q_ rfl rfl rfl rfl (q_ rfl rfl rfl rfl (q_ rfl rfl rfl rfl (a_ (F_ rfl rfl) rfl (d_ (c_ rfl (r_ rfl ?_)))))))))
    refine D_ (c_ rfl (b_ (a_ (R_ rfl rfl rfl (aq_ (by omega) (by omega))) rfl (a_ (g_ rfl) rfl (d_ (o_ rfl ?_))))))
    exact av_ ⟨k + 1, hlt, ed_ _ s k c hc hk.2 (by simp [dH_, *] <;> omega)⟩ (by simp; omega) ⟨rfl, rfl, rfl, trivial⟩ (.refl _) (fun _ _ h => h)
   ·
    replace hr3 := bz_ hr3
    refine n_ rfl rfl (a_ (g_ rfl) rfl (n_ rfl rfl (v_ (aN_ rfl rfl) rfl fun r4 hr4 => ?_)))
    refine n_ rfl rfl (a_ (g_ rfl) rfl ?_)
    cases r4
    ·
     replace hr4 := of_decide_eq_false hr4
     refine n_ rfl rfl (a_ (g_ rfl) rfl (n_ rfl rfl (v_ (ce_ rfl rfl) rfl fun r5 hr5 => ?_)))
     refine n_ rfl rfl (a_ (F_ rfl rfl) rfl (a_ (K_ rfl rfl) rfl (d_ (c_ rfl ?_))))
     cases r5
     ·
      replace hr5 := of_decide_eq_false hr5
      refine r_ rfl (D_ (c_ rfl (b_ (a_ (R_ rfl rfl rfl (aq_ (by omega) (by omega))) rfl (a_ (g_ rfl) rfl (d_ (o_ rfl ?_)))))))
      exact av_ ⟨k + 1, hlt, ed_ _ s k c hc hk.2 (by simp [dH_, *] <;> omega)⟩ (by simp; omega) ⟨rfl, rfl, rfl, trivial⟩ (.refl _) (fun _ _ h => h)
     ·
      replace hr5 := of_decide_eq_true hr5
      refine p_ rfl (f_ (b_ (a_ (e_ rfl) rfl (d_ (c_ rfl (B_ ?_))))))
      exact aj_ Tryz.results120 () (y_ rfl (by rw [fu_, ft_ dH_ s k c hc (by simp [dH_, *] <;> omega)])) (.refl _) (fun _ _ _ => trivial)
    ·
     replace hr4 := of_decide_eq_true hr4
     refine q_ rfl rfl rfl rfl (q_ rfl rfl rfl rfl (n_ rfl rfl (a_ (K_ rfl rfl) rfl (a_ (K_ rfl rfl) rfl (d_ (c_ rfl (p_ rfl (f_ (b_ ?_)))))))))
     refine a_ (e_ rfl) rfl (d_ (c_ rfl (B_ ?_)))
     exact aj_ Tryz.results120 () (y_ rfl (by rw [fu_, ft_ dH_ s k c hc (by simp [dH_, *] <;> omega)])) (.refl _) (fun _ _ _ => trivial)
  ·
   refine q_ rfl rfl rfl rfl (q_ rfl rfl rfl rfl (a_ (F_ rfl rfl) rfl (a_ (g_ rfl) rfl (q_ rfl rfl rfl rfl (q_ rfl rfl rfl rfl (q_ rfl rfl rfl rfl (q_ rfl rfl rfl rfl (q_ rfl rfl rfl rfl (q_ rfl rfl rfl rfl ?_)))))))))
   refine a_ (F_ rfl rfl) rfl (d_ (c_ rfl (r_ rfl (D_ (c_ rfl (b_ (a_ (R_ rfl rfl rfl (aq_ (by omega) (by omega))) rfl (a_ (g_ rfl) rfl (d_ ?_)))))))))
   refine o_ rfl ?_
   exact av_ ⟨k + 1, hlt, ed_ _ s k c hc hk.2 (by simp [dH_, *] <;> omega)⟩ (by simp; omega) ⟨rfl, rfl, rfl, trivial⟩ (.refl _) (fun _ _ h => h)
theorem kd_ (s : Str) :
  Fn0 Tryz.prog 150 #[str s] (.bool (bn_ s)) := by
 refine M_ Tryz.func150 rfl rfl Tryz.ntmps150 rfl fun v0 => ?_
 refine f_ (b_ (a_ (e_ rfl) rfl (d_ (c_ rfl (f_ (f_ (b_ (a_ (g_ rfl) rfl (d_ ?_)))))))))
 refine c_ rfl (T_ (f_ (f_ (b_ (v_ (aV_ rfl rfl) rfl fun r1 hr1 => ?_)))))
 refine a_ (e_ rfl) rfl (d_ (c_ rfl ?_))
 cases r1
 ·
  replace hr1 := ne_of_beq_false hr1
  refine r_ rfl (f_ (b_ (v_ (aV_ rfl rfl) rfl fun r2 hr2 => ?_)))
  refine a_ (e_ rfl) rfl (d_ (c_ rfl ?_))
  cases r2
  ·
   replace hr2 := ne_of_beq_false hr2
   refine r_ rfl (f_ (b_ (v_ (aV_ rfl rfl) rfl fun r3 hr3 => ?_)))
   refine a_ (e_ rfl) rfl (d_ (c_ rfl ?_))
   cases r3
   ·
    replace hr3 := ne_of_beq_false hr3
    refine r_ rfl (f_ (b_ (v_ (aV_ rfl rfl) rfl fun r4 hr4 => ?_)))
    refine a_ (e_ rfl) rfl (d_ (c_ rfl ?_))
    cases r4
    ·
     replace hr4 := ne_of_beq_false hr4
     refine r_ rfl (f_ (b_ (v_ (aV_ rfl rfl) rfl fun r5 hr5 => ?_)))
     refine a_ (e_ rfl) rfl (d_ (c_ rfl ?_))
     cases r5
     ·
      replace hr5 := ne_of_beq_false hr5
      refine r_ rfl (f_ (b_ (v_ (aV_ rfl rfl) rfl fun r6 hr6 => ?_)))
      refine a_ (e_ rfl) rfl (d_ (c_ rfl ?_))
      cases r6
      ·
       replace hr6 := ne_of_beq_false hr6
       refine r_ rfl (f_ (b_ (v_ (aV_ rfl rfl) rfl fun r7 hr7 => ?_)))
       refine a_ (e_ rfl) rfl (d_ (c_ rfl ?_))
       cases r7
       ·
        replace hr7 := ne_of_beq_false hr7
        refine r_ rfl (f_ (b_ (v_ (aV_ rfl rfl) rfl fun r8 hr8 => ?_)))
        refine a_ (e_ rfl) rfl (d_ (c_ rfl ?_))
        cases r8
        ·
         replace hr8 := ne_of_beq_false hr8
         refine r_ rfl (f_ (b_ (v_ (aV_ rfl rfl) rfl fun r9 hr9 => ?_)))
         refine a_ (e_ rfl) rfl (d_ (c_ rfl ?_))
         cases r9
         ·
          replace hr9 := ne_of_beq_false hr9
          refine r_ rfl (f_ (b_ (v_ (aV_ rfl rfl) rfl fun r10 hr10 => ?_)))
          refine a_ (e_ rfl) rfl (d_ (c_ rfl ?_))
          cases r10
          ·
           replace hr10 := ne_of_beq_false hr10
           refine r_ rfl (f_ (b_ (v_ (aV_ rfl rfl) rfl fun r11 hr11 => ?_)))
           refine a_ (e_ rfl) rfl (d_ (c_ rfl ?_))
           cases r11
           ·
            replace hr11 := ne_of_beq_false hr11
            refine r_ rfl (f_ (b_ (v_ (aV_ rfl rfl) rfl fun r12 hr12 => ?_)))
            refine a_ (e_ rfl) rfl (d_ (c_ rfl ?_))
            cases r12
            ·
             replace hr12 := ne_of_beq_false hr12
             refine r_ rfl (f_ (b_ (v_ (aV_ rfl rfl) rfl fun r13 hr13 => ?_)))
             refine a_ (e_ rfl) rfl (d_ (c_ rfl ?_))
             cases r13
             ·
              replace hr13 := ne_of_beq_false hr13
              refine r_ rfl (f_ (b_ (v_ (aV_ rfl rfl) rfl fun r14 hr14 => ?_)))
              refine a_ (e_ rfl) rfl (d_ (c_ rfl ?_))
              cases r14
              ·
               replace hr14 := ne_of_beq_false hr14
               refine r_ rfl (f_ (b_ (v_ (aV_ rfl rfl) rfl fun r15 hr15 => ?_)))
               refine a_ (e_ rfl) rfl (d_ (c_ rfl ?_))
               cases r15
               ·
                replace hr15 := ne_of_beq_false hr15
                refine r_ rfl (f_ (b_ (v_ (aV_ rfl rfl) rfl fun r16 hr16 => ?_)))
                refine a_ (e_ rfl) rfl (d_ (c_ rfl ?_))
                cases r16
                ·
                 replace hr16 := ne_of_beq_false hr16
                 refine r_ rfl (f_ (b_ (v_ (aV_ rfl rfl) rfl fun r17 hr17 => ?_)))
                 refine a_ (e_ rfl) rfl (d_ (c_ rfl ?_))
                 cases r17
                 ·
                  replace hr17 := ne_of_beq_false hr17
                  refine r_ rfl (f_ (b_ (v_ (aV_ rfl rfl) rfl fun r18 hr18 => ?_)))
                  refine a_ (e_ rfl) rfl (d_ (c_ rfl ?_))
                  cases r18
                  ·
                   replace hr18 := ne_of_beq_false hr18
                   refine r_ rfl (f_ (b_ (v_ (aV_ rfl rfl) rfl fun r19 hr19 => ?_)))
                   refine a_ (e_ rfl) rfl (d_ (c_ rfl ?_))
                   cases r19
                   ·
                    replace hr19 := ne_of_beq_false hr19
                    refine r_ rfl (f_ (b_ (v_ (aV_ rfl rfl) rfl fun r20 hr20 => ?_)))
                    refine a_ (e_ rfl) rfl (d_ (c_ rfl ?_))
                    cases r20
                    ·
                     replace hr20 := ne_of_beq_false hr20
                     refine r_ rfl (f_ (b_ (v_ (aV_ rfl rfl) rfl fun r21 hr21 => ?_)))
                     refine a_ (e_ rfl) rfl (d_ (c_ rfl ?_))
                     cases r21
                     ·
                      replace hr21 := ne_of_beq_false hr21
                      refine r_ rfl (b_ (v_ (aV_ rfl rfl) rfl fun r22 hr22 => ?_))
                      refine a_ (e_ rfl) rfl (d_ (c_ rfl ?_))
                      cases r22
                      ·
                       replace hr22 := ne_of_beq_false hr22
                       refine r_ rfl (D_ (c_ rfl (f_ (b_ (a_ (e_ rfl) rfl (d_ (c_ rfl (B_ ?_))))))))
                       exact aj_ aF_ () (y_ rfl (by simp [bn_, kws, *])) (.refl _) (fun _ _ _ => trivial)
                      ·
                       replace hr22 := eq_of_beq hr22
                       refine p_ rfl (f_ (b_ (a_ (e_ rfl) rfl (d_ (c_ rfl (B_ ?_))))))
                       exact aj_ aF_ () (y_ rfl (by simp [bn_, kws, *])) (.refl _) (fun _ _ _ => trivial)
                     ·
                      replace hr21 := eq_of_beq hr21
                      refine p_ rfl (D_ (c_ rfl (p_ rfl (f_ (b_ (a_ (e_ rfl) rfl (d_ (c_ rfl (B_ ?_)))))))))
                      exact aj_ aF_ () (y_ rfl (by simp [bn_, kws, *])) (.refl _) (fun _ _ _ => trivial)
                    ·
                     replace hr20 := eq_of_beq hr20
                     refine p_ rfl (D_ (c_ rfl (p_ rfl (f_ (b_ (a_ (e_ rfl) rfl (d_ (c_ rfl (B_ ?_)))))))))
                     exact aj_ aF_ () (y_ rfl (by simp [bn_, kws, *])) (.refl _) (fun _ _ _ => trivial)
                   ·
                    replace hr19 := eq_of_beq hr19
                    refine p_ rfl (D_ (c_ rfl (p_ rfl (f_ (b_ (a_ (e_ rfl) rfl (d_ (c_ rfl (B_ ?_)))))))))
                    exact aj_ aF_ () (y_ rfl (by simp [bn_, kws, *])) (.refl _) (fun _ _ _ => trivial)
                  ·
                   replace hr18 := eq_of_beq hr18
                   refine p_ rfl (D_ (c_ rfl (p_ rfl (f_ (b_ (a_ (e_ rfl) rfl (d_ (c_ rfl (B_ ?_)))))))))
                   exact aj_ aF_ () (y_ rfl (by simp [bn_, kws, *])) (.refl _) (fun _ _ _ => trivial)
                 ·
                  replace hr17 := eq_of_beq hr17
                  refine p_ rfl (D_ (c_ rfl (p_ rfl (f_ (b_ (a_ (e_ rfl) rfl (d_ (c_ rfl (B_ ?_)))))))))
                  exact aj_ aF_ () (y_ rfl (by simp [bn_, kws, *])) (.refl _) (fun _ _ _ => trivial)
                ·
                 replace hr16 := eq_of_beq hr16
                 refine p_ rfl (D_ (c_ rfl (p_ rfl (f_ (b_ (a_ (e_ rfl) rfl (d_ (c_ rfl (B_ ?_)))))))))
                 exact aj_ aF_ () (y_ rfl (by simp [bn_, kws, *])) (.refl _) (fun _ _ _ => trivial)
               ·
                replace hr15 := eq_of_beq hr15
                refine p_ rfl (D_ (c_ rfl (p_ rfl (f_ (b_ (a_ (e_ rfl) rfl (d_ (c_ rfl (B_ ?_)))))))))
                exact aj_ aF_ () (y_ rfl (by simp [bn_, kws, *])) (.refl _) (fun _ _ _ => trivial)
              ·
               replace hr14 := eq_of_beq hr14
               refine p_ rfl (D_ (c_ rfl (p_ rfl (f_ (b_ (a_ (e_ rfl) rfl (d_ (c_ rfl (B_ ?_)))))))))
               exact aj_ aF_ () (y_ rfl (by simp [bn_, kws, *])) (.refl _) (fun _ _ _ => trivial)
             ·
              replace hr13 := eq_of_beq hr13
              refine p_ rfl (D_ (c_ rfl (p_ rfl (f_ (b_ (a_ (e_ rfl) rfl (d_ (c_ rfl (B_ ?_)))))))))
              exact aj_ aF_ () (y_ rfl (by simp [bn_, kws, *])) (.refl _) (fun _ _ _ => trivial)
            ·
             replace hr12 := eq_of_beq hr12
             refine p_ rfl (D_ (c_ rfl (p_ rfl (f_ (b_ (a_ (e_ rfl) rfl (d_ (c_ rfl (B_ ?_)))))))))
             exact aj_ aF_ () (y_ rfl (by simp [bn_, kws, *])) (.refl _) (fun _ _ _ => trivial)
           ·
            replace hr11 := eq_of_beq hr11
            refine p_ rfl (D_ (c_ rfl (p_ rfl (f_ (b_ (a_ (e_ rfl) rfl (d_ (c_ rfl (B_ ?_)))))))))
            exact aj_ aF_ () (y_ rfl (by simp [bn_, kws, *])) (.refl _) (fun _ _ _ => trivial)
          ·
           replace hr10 := eq_of_beq hr10
           refine p_ rfl (D_ (c_ rfl (p_ rfl (f_ (b_ (a_ (e_ rfl) rfl (d_ (c_ rfl (B_ ?_)))))))))
           exact aj_ aF_ () (y_ rfl (by simp [bn_, kws, *])) (.refl _) (fun _ _ _ => trivial)
         ·
          replace hr9 := eq_of_beq hr9
          refine p_ rfl (D_ (c_ rfl (p_ rfl (f_ (b_ (a_ (e_ rfl) rfl (d_ (c_ rfl (B_ ?_)))))))))
          exact aj_ aF_ () (y_ rfl (by simp [bn_, kws, *])) (.refl _) (fun _ _ _ => trivial)
        ·
         replace hr8 := eq_of_beq hr8
         refine p_ rfl (D_ (c_ rfl (p_ rfl (f_ (b_ (a_ (e_ rfl) rfl (d_ (c_ rfl (B_ ?_)))))))))
         exact aj_ aF_ () (y_ rfl (by simp [bn_, kws, *])) (.refl _) (fun _ _ _ => trivial)
       ·
        replace hr7 := eq_of_beq hr7
        refine p_ rfl (D_ (c_ rfl (p_ rfl (f_ (b_ (a_ (e_ rfl) rfl (d_ (c_ rfl (B_ ?_)))))))))
        exact aj_ aF_ () (y_ rfl (by simp [bn_, kws, *])) (.refl _) (fun _ _ _ => trivial)
      ·
       replace hr6 := eq_of_beq hr6
       refine p_ rfl (D_ (c_ rfl (p_ rfl (f_ (b_ (a_ (e_ rfl) rfl (d_ (c_ rfl (B_ ?_)))))))))
       exact aj_ aF_ () (y_ rfl (by simp [bn_, kws, *])) (.refl _) (fun _ _ _ => trivial)
     ·
      replace hr5 := eq_of_beq hr5
      refine p_ rfl (D_ (c_ rfl (p_ rfl (f_ (b_ (a_ (e_ rfl) rfl (d_ (c_ rfl (B_ ?_)))))))))
      exact aj_ aF_ () (y_ rfl (by simp [bn_, kws, *])) (.refl _) (fun _ _ _ => trivial)
    ·
     replace hr4 := eq_of_beq hr4
     refine p_ rfl (D_ (c_ rfl (p_ rfl (f_ (b_ (a_ (e_ rfl) rfl (d_ (c_ rfl (B_ ?_)))))))))
     exact aj_ aF_ () (y_ rfl (by simp [bn_, kws, *])) (.refl _) (fun _ _ _ => trivial)
   ·
    replace hr3 := eq_of_beq hr3
    refine p_ rfl (D_ (c_ rfl (p_ rfl (f_ (b_ (a_ (e_ rfl) rfl (d_ (c_ rfl (B_ ?_)))))))))
    exact aj_ aF_ () (y_ rfl (by simp [bn_, kws, *])) (.refl _) (fun _ _ _ => trivial)
  ·
   replace hr2 := eq_of_beq hr2
   refine p_ rfl (D_ (c_ rfl (p_ rfl (f_ (b_ (a_ (e_ rfl) rfl (d_ (c_ rfl (B_ ?_)))))))))
   exact aj_ aF_ () (y_ rfl (by simp [bn_, kws, *])) (.refl _) (fun _ _ _ => trivial)
 ·
  replace hr1 := eq_of_beq hr1
  refine p_ rfl (D_ (c_ rfl (p_ rfl (f_ (b_ (a_ (e_ rfl) rfl (d_ (c_ rfl (B_ ?_)))))))))
  exact aj_ aF_ () (y_ rfl (by simp [bn_, kws, *])) (.refl _) (fun _ _ _ => trivial)
end Go.Proofs.YtoafjmalfclpoaaGreatDoor
namespace Go.Proofs.YtoafjmalfclpoaaGreatDoor
open Go Go.Sx Go.Proofs
attribute [local irreducible] Code.wp wpList wpAnyH
open Go.Vs
theorem gM_ (s : Str) (hs : s.length ≤ 140737488351232) :
    Fn0 Tryz.prog 119 #[str s] (.bool (eM_ s)) := by
  refine M_ Tryz.func119 rfl rfl Tryz.ntmps119 rfl fun v0 => ?_
  refine f_ (b_ (a_ (e_ rfl) rfl (d_ (c_ rfl (f_ (b_ (a_ (g_ rfl) rfl (v_ (fq_ rfl rfl) rfl fun r1 hr1 => ?_))))))))
  refine a_ (g_ rfl) rfl ?_
  cases r1
  · skip
    replace hr1 := bA_ hr1
    refine q_ rfl rfl rfl rfl (q_ rfl rfl rfl rfl (q_ rfl rfl rfl rfl (a_ (F_ rfl rfl) rfl (a_ (g_ rfl) rfl (q_ rfl rfl rfl rfl (q_ rfl rfl rfl rfl (a_ (F_ rfl rfl) rfl (a_ (g_ rfl) rfl (q_ rfl rfl rfl rfl ?_)))))))))
    refine q_ rfl rfl rfl rfl (q_ rfl rfl rfl rfl (a_ (F_ rfl rfl) rfl (a_ (e_ rfl) rfl (d_ (c_ rfl (B_ ?_))))))
    exact aj_ Tryz.results119 () (y_ rfl (by simp [eM_, *])) (.refl _) (fun _ _ _ => trivial)
  · skip
    replace hr1 := bz_ hr1
    obtain ⟨c, t, rfl⟩ := List.exists_cons_of_ne_nil hr1
    refine n_ rfl rfl (a_ (g_ rfl) rfl (n_ rfl rfl (a_ (cJ_ ag_ rfl rfl (by decide) rfl) rfl (n_ rfl rfl (al_ (gN_ _) rfl (.refl _) (fun _ _ _ => trivial) rfl fun r2 hr2 => ?_)))))
    refine a_ (K_ rfl rfl) rfl (a_ (g_ rfl) rfl ?_)
    cases r2
    · skip
      refine q_ rfl rfl rfl rfl (q_ rfl rfl rfl rfl (a_ (F_ rfl rfl) rfl (a_ (g_ rfl) rfl (q_ rfl rfl rfl rfl (q_ rfl rfl rfl rfl (q_ rfl rfl rfl rfl (a_ (F_ rfl rfl) rfl (a_ (e_ rfl) rfl (d_ ?_)))))))))
      refine c_ rfl (B_ ?_)
      exact aj_ Tryz.results119 () (y_ rfl (by simp [eM_, *])) (.refl _) (fun _ _ _ => trivial)
    · skip
      refine n_ rfl rfl (a_ (g_ rfl) rfl (n_ rfl rfl (al_ (iG_ _ (by assumption)) rfl (.refl _) (fun _ _ _ => trivial) rfl fun r3 hr3 => ?_)))
      refine a_ (K_ rfl rfl) rfl (a_ (g_ rfl) rfl ?_)
      cases r3
      · skip
        refine q_ rfl rfl rfl rfl (q_ rfl rfl rfl rfl (q_ rfl rfl rfl rfl (a_ (F_ rfl rfl) rfl (a_ (e_ rfl) rfl (d_ (c_ rfl (B_ ?_)))))))
        exact aj_ Tryz.results119 () (y_ rfl (by simp [eM_, *])) (.refl _) (fun _ _ _ => trivial)
      · skip
        refine n_ rfl rfl (a_ (g_ rfl) rfl (n_ rfl rfl (al_ (kd_ _) rfl (.refl _) (fun _ _ _ => trivial) rfl fun r4 hr4 => ?_)))
        refine n_ rfl rfl (a_ (bf_ rfl) rfl (a_ (K_ rfl rfl) rfl (a_ (e_ rfl) rfl (d_ (c_ rfl (B_ ?_))))))
        exact aj_ Tryz.results119 () (y_ rfl (by simp [eM_, *])) (.refl _) (fun _ _ _ => trivial)
theorem eE_ (s : Str) (hs : s.length ≤ 140737488351232) :
    Fn0 Tryz.prog 64 #[str s] (.bool (bY_ s)) := by
  refine M_ Tryz.func64 rfl rfl Tryz.ntmps64 rfl fun v0 => ?_
  refine f_ (b_ (a_ (e_ rfl) rfl (d_ (c_ rfl (f_ (b_ (a_ (g_ rfl) rfl (a_ (cz_ ag_ rfl) rfl (v_ (dm_ rfl rfl) rfl fun r1 hr1 => ?_)))))))))
  refine a_ (g_ rfl) rfl ?_
  cases r1
  · skip
    replace hr1 := of_decide_eq_false hr1
    refine q_ rfl rfl rfl rfl (q_ rfl rfl rfl rfl (q_ rfl rfl rfl rfl (a_ (F_ rfl rfl) rfl (a_ (g_ rfl) rfl (q_ rfl rfl rfl rfl (q_ rfl rfl rfl rfl (q_ rfl rfl rfl rfl (a_ (F_ rfl rfl) rfl (a_ (g_ rfl) rfl ?_)))))))))
    refine q_ rfl rfl rfl rfl (q_ rfl rfl rfl rfl (a_ (F_ rfl rfl) rfl (a_ (e_ rfl) rfl (d_ (c_ rfl (B_ ?_))))))
    exact aj_ Tryz.results64 () (y_ rfl (by subst_vars; rw [Bool.eq_iff_iff]; simp [bY_] <;> simp at * <;> omega)) (.refl _) (fun _ _ _ => trivial)
  · skip
    replace hr1 := of_decide_eq_true hr1
    refine n_ rfl rfl (a_ (g_ rfl) rfl (n_ rfl rfl (a_ (cz_ ag_ rfl) rfl (n_ rfl rfl (v_ (cy_ rfl rfl) rfl fun r2 hr2 => ?_)))))
    refine a_ (K_ rfl rfl) rfl (a_ (g_ rfl) rfl ?_)
    cases r2
    · skip
      replace hr2 := of_decide_eq_false hr2
      refine q_ rfl rfl rfl rfl (q_ rfl rfl rfl rfl (q_ rfl rfl rfl rfl (a_ (F_ rfl rfl) rfl (a_ (g_ rfl) rfl (q_ rfl rfl rfl rfl (q_ rfl rfl rfl rfl (a_ (F_ rfl rfl) rfl (a_ (e_ rfl) rfl (d_ ?_)))))))))
      refine c_ rfl (B_ ?_)
      exact aj_ Tryz.results64 () (y_ rfl (by subst_vars; rw [Bool.eq_iff_iff]; simp [bY_] <;> simp at * <;> omega)) (.refl _) (fun _ _ _ => trivial)
    · skip
      replace hr2 := of_decide_eq_true hr2
      obtain ⟨c, t, rfl⟩ := List.exists_cons_of_length_pos (l := s) (by omega)
      refine n_ rfl rfl (a_ (g_ rfl) rfl (n_ rfl rfl (a_ (cJ_ ag_ rfl rfl (by decide) rfl) rfl (n_ rfl rfl (v_ (ai_ rfl rfl) rfl fun r3 hr3 => ?_)))))
      refine a_ (K_ rfl rfl) rfl (a_ (g_ rfl) rfl ?_)
      cases r3
      · skip
        replace hr3 := ne_of_beq_false hr3
        refine q_ rfl rfl rfl rfl (q_ rfl rfl rfl rfl (a_ (F_ rfl rfl) rfl (a_ (e_ rfl) rfl (d_ (c_ rfl (B_ ?_))))))
        exact aj_ Tryz.results64 () (y_ rfl (by subst_vars; rw [Bool.eq_iff_iff]; simp [bY_] <;> simp at * <;> omega)) (.refl _) (fun _ _ _ => trivial)
      · skip
        replace hr3 := eq_of_beq hr3
        refine n_ rfl rfl (a_ (g_ rfl) rfl (n_ rfl rfl (al_ (iG_ _ (by assumption)) rfl (.refl _) (fun _ _ _ => trivial) rfl fun r4 hr4 => ?_)))
        refine a_ (K_ rfl rfl) rfl (a_ (e_ rfl) rfl (d_ (c_ rfl (B_ ?_))))
        exact aj_ Tryz.results64 () (y_ rfl (by subst_vars; rw [Bool.eq_iff_iff]; simp [bY_] <;> simp at * <;> omega)) (.refl _) (fun _ _ _ => trivial)
theorem fW_ (s : Str) (c : UInt8) : Fn0 Tryz.prog 172 #[str s, str [c]] (.int .i64 (Lib.indexByte s c)) :=
  eH_ (callable Tryz.func172 rfl rfl) fun w => (Tryz.stringslite_Index_one ⟨s.toArray⟩ c w).mono (by rintro e w' ⟨rfl, rfl⟩; exact ⟨rfl, rfl, rfl, rfl, rfl, Nat.le_refl _⟩)
theorem hI_ (s : Str) (c : UInt8) (hk : ixS c s = none) : Fn0 Tryz.prog 172 #[str s, str [c]] (.int .i64 (-1)) := by
  have h := fW_ s c
  rw [gm_, hk] at h
  exact h
theorem hH_ (s : Str) (c : UInt8) (k : Nat) (hk : ixS c s = some k) : Fn0 Tryz.prog 172 #[str s, str [c]] (.int .i64 (k : Int)) := by
  have h := fW_ s c
  rw [gm_, hk] at h
  exact h
theorem kl_ (s : Str) (c : UInt8) (hk : ixS c s = none) :
    Fn0 Tryz.prog 148 #[str s, str [c]] (.tuple #[str s, str [], .bool false]) := by
  refine M_ Tryz.func148 rfl rfl Tryz.ntmps148 rfl fun v0 => ?_
  refine f_ (b_ (a_ (e_ rfl) rfl (a_ (e_ rfl) rfl (a_ (e_ rfl) rfl (d_ (c_ rfl (f_ (f_ (b_ ?_)))))))))
  refine a_ (g_ rfl) rfl (a_ (g_ rfl) rfl (A_ (hI_ s c hk) rfl (.refl _) (fun _ _ _ => trivial) rfl fun _ => ?_))
  refine a_ (e_ rfl) rfl (d_ (c_ rfl (f_ (b_ (a_ (g_ rfl) rfl (v_ (dm_ rfl rfl) rfl fun r1 hr1 => ?_))))))
  refine d_ (c_ rfl ?_)
  cases r1
  · skip
    replace hr1 := of_decide_eq_false hr1
    refine r_ rfl (D_ (c_ rfl (f_ (b_ (a_ (g_ rfl) rfl (a_ (e_ rfl) rfl (a_ (e_ rfl) rfl (a_ (e_ rfl) rfl (d_ ?_)))))))))
    refine c_ rfl (B_ ?_)
    exact fP_ Tryz.results148 () rfl rfl rfl rfl (.refl _) (fun _ _ _ => trivial)
  · skip
    replace hr1 := of_decide_eq_true hr1
    exact absurd hr1 (by decide)
theorem kk_ (s : Str) (c : UInt8) (k : Nat) (hk : ixS c s = some k) (hl : k < s.length) (hs : s.length ≤ 140737488351232) :
    Fn0 Tryz.prog 148 #[str s, str [c]] (.tuple #[str (s.take k), str (s.drop (k + 1)), .bool true]) := by
  refine M_ Tryz.func148 rfl rfl Tryz.ntmps148 rfl fun v0 => ?_
  refine f_ (b_ (a_ (e_ rfl) rfl (a_ (e_ rfl) rfl (a_ (e_ rfl) rfl (d_ (c_ rfl (f_ (f_ (b_ ?_)))))))))
  refine a_ (g_ rfl) rfl (a_ (g_ rfl) rfl (A_ (hH_ s c k hk) rfl (.refl _) (fun _ _ _ => trivial) rfl fun _ => ?_))
  refine a_ (e_ rfl) rfl (d_ (c_ rfl (f_ (b_ (a_ (g_ rfl) rfl (v_ (dm_ rfl rfl) rfl fun r1 hr1 => ?_))))))
  refine d_ (c_ rfl ?_)
  cases r1
  · skip
    replace hr1 := of_decide_eq_false hr1
    exact absurd (by omega) hr1
  · skip
    replace hr1 := of_decide_eq_true hr1
    refine p_ rfl (f_ ?_)
    refine br_ (by kernel_rfl) ?_
    refine ab_ 0 [0, 1, 2, 3, 4, 5, 6, 7, 8, 9, 10, 11] (by kernel_rfl) (fun _ a b => ⟨a, b⟩) (s_ rfl (g_ rfl) rfl (s_ rfl (g_ rfl) rfl (s_ rfl (dQ_ (i := 0) (j := k) (kl := .i64) ag_ rfl rfl rfl (by omega) (by omega)) rfl (s_ rfl (g_ rfl) rfl (s_ rfl (g_ rfl) rfl (s_ rfl (g_ rfl) rfl (s_ rfl (cz_ ag_ rfl) rfl (s_ rfl (R_ rfl rfl rfl (aq_ (by simp only [List.length_cons, List.length_nil]; omega) (by simp only [List.length_cons, List.length_nil]; omega))) rfl (s_ rfl (dQ_ (i := k + 1) (j := s.length) (kh := .i64) ag_ rfl rfl rfl (by omega) (by omega)) rfl ?_)))))))))
    refine s_ rfl (e_ rfl) rfl (s_ rfl (e_ rfl) rfl (s_ rfl (e_ rfl) rfl (aa_ (ad_ (by kernel_rfl) (c_ rfl (B_ ?_))))))
    exact fP_ Tryz.results148 () rfl rfl rfl (by simp [List.take_of_length_le]) (.refl _) (fun _ _ _ => trivial)
theorem li_ (s : Str) (c : UInt8) (hk : ixS c s = none) :
    Fn0 Tryz.prog 118 #[str s, str [c]] (.tuple #[str s, str [], .bool false]) := by
  refine M_ Tryz.func118 rfl rfl Tryz.ntmps118 rfl fun v0 => ?_
  refine f_ (b_ (a_ (e_ rfl) rfl (a_ (e_ rfl) rfl (a_ (e_ rfl) rfl (d_ (c_ rfl (f_ (b_ (a_ (g_ rfl) rfl ?_)))))))))
  refine a_ (g_ rfl) rfl (A_ (kl_ s c hk) rfl (.refl _) (fun _ _ _ => trivial) rfl fun _ => ?_)
  refine a_ (aD_ rfl rfl) rfl (a_ (aD_ rfl rfl) rfl (a_ (aD_ rfl rfl) rfl (a_ (e_ rfl) rfl (a_ (e_ rfl) rfl (a_ (e_ rfl) rfl (d_ (c_ rfl (B_ ?_))))))))
  exact fP_ Tryz.results118 () rfl rfl rfl rfl (.refl _) (fun _ _ _ => trivial)
theorem hG_ (s : Str) (hk : ixS 58 s = none) :
    Fn0 Tryz.prog 63 #[str s] (.bool (bF_ s)) := by
  refine M_ Tryz.func63 rfl rfl Tryz.ntmps63 rfl fun v0 => ?_
  refine f_ (b_ (a_ (e_ rfl) rfl (d_ (c_ rfl (f_ (f_ (b_ (a_ (g_ rfl) rfl (a_ (cz_ ag_ rfl) rfl ?_)))))))))
  refine v_ (ce_ rfl rfl) rfl fun r1 hr1 => ?_
  refine d_ (c_ rfl ?_)
  cases r1
  · skip
    replace hr1 := of_decide_eq_false hr1
    refine r_ rfl (D_ (c_ rfl (f_ (b_ (a_ (g_ rfl) rfl (A_ (li_ s 58 hk) rfl (.refl _) (fun _ _ _ => trivial) rfl fun _ => ?_))))))
    refine a_ (g_ rfl) rfl (a_ (aD_ rfl rfl) rfl (a_ (aD_ rfl rfl) rfl (a_ (aD_ rfl rfl) rfl (a_ (e_ rfl) rfl (a_ (e_ rfl) rfl (a_ (e_ rfl) rfl (d_ (c_ rfl (f_ ?_)))))))))
    refine b_ (a_ (g_ rfl) rfl (al_ (gM_ _ (by first | omega | (simp; omega))) rfl (.refl _) (fun _ _ _ => trivial) rfl fun r2 hr2 => ?_))
    refine a_ (g_ rfl) rfl ?_
    cases r2
    · skip
      refine q_ rfl rfl rfl rfl (q_ rfl rfl rfl rfl (q_ rfl rfl rfl rfl (q_ rfl rfl rfl rfl (q_ rfl rfl rfl rfl (q_ rfl rfl rfl rfl (a_ (F_ rfl rfl) rfl (a_ (e_ rfl) rfl (d_ (c_ rfl ?_)))))))))
      refine B_ ?_
      exact aj_ gv_ () (y_ rfl (by simp [bF_, *] <;> omega)) (.refl _) (fun _ _ _ => trivial)
    · skip
      refine n_ rfl rfl (a_ (g_ rfl) rfl (n_ rfl rfl (a_ (bf_ rfl) rfl (n_ rfl rfl (a_ (g_ rfl) rfl (q_ rfl rfl rfl rfl (q_ rfl rfl rfl rfl (n_ rfl rfl (a_ (K_ rfl rfl) rfl ?_)))))))))
      refine a_ (K_ rfl rfl) rfl (a_ (e_ rfl) rfl (d_ (c_ rfl (B_ ?_))))
      exact aj_ gv_ () (y_ rfl (by simp [bF_, *] <;> omega)) (.refl _) (fun _ _ _ => trivial)
  · skip
    replace hr1 := of_decide_eq_true hr1
    refine p_ rfl (f_ (b_ (a_ (e_ rfl) rfl (d_ (c_ rfl (B_ ?_))))))
    exact aj_ gv_ () (y_ rfl (by simp [bF_, *] <;> omega)) (.refl _) (fun _ _ _ => trivial)
theorem lh_ (s : Str) (c : UInt8) (k : Nat) (hk : ixS c s = some k) (hl : k < s.length) (hs : s.length ≤ 140737488351232) :
    Fn0 Tryz.prog 118 #[str s, str [c]] (.tuple #[str (s.take k), str (s.drop (k + 1)), .bool true]) := by
  refine M_ Tryz.func118 rfl rfl Tryz.ntmps118 rfl fun v0 => ?_
  refine f_ (b_ (a_ (e_ rfl) rfl (a_ (e_ rfl) rfl (a_ (e_ rfl) rfl (d_ (c_ rfl (f_ (b_ (a_ (g_ rfl) rfl ?_)))))))))
  refine a_ (g_ rfl) rfl (A_ (kk_ s c k hk hl hs) rfl (.refl _) (fun _ _ _ => trivial) rfl fun _ => ?_)
  refine a_ (aD_ rfl rfl) rfl (a_ (aD_ rfl rfl) rfl (a_ (aD_ rfl rfl) rfl (a_ (e_ rfl) rfl (a_ (e_ rfl) rfl (a_ (e_ rfl) rfl (d_ (c_ rfl (B_ ?_))))))))
  exact fP_ Tryz.results118 () rfl rfl rfl rfl (.refl _) (fun _ _ _ => trivial)
theorem hF_ (s : Str) (k : Nat) (hk : ixS 58 s = some k) (hl : k < s.length) :
    Fn0 Tryz.prog 63 #[str s] (.bool (bF_ s)) := by
  refine M_ Tryz.func63 rfl rfl Tryz.ntmps63 rfl fun v0 => ?_
  refine f_ (b_ (a_ (e_ rfl) rfl (d_ (c_ rfl (f_ (f_ (b_ (a_ (g_ rfl) rfl (a_ (cz_ ag_ rfl) rfl ?_)))))))))
  refine v_ (ce_ rfl rfl) rfl fun r1 hr1 => ?_
  refine d_ (c_ rfl ?_)
  cases r1
  · skip
    replace hr1 := of_decide_eq_false hr1
    refine r_ rfl (D_ (c_ rfl (f_ (b_ (a_ (g_ rfl) rfl (A_ (lh_ s 58 k hk hl (by omega)) rfl (.refl _) (fun _ _ _ => trivial) rfl fun _ => ?_))))))
    refine a_ (g_ rfl) rfl (a_ (aD_ rfl rfl) rfl (a_ (aD_ rfl rfl) rfl (a_ (aD_ rfl rfl) rfl (a_ (e_ rfl) rfl (a_ (e_ rfl) rfl (a_ (e_ rfl) rfl (d_ (c_ rfl (f_ ?_)))))))))
    refine b_ (a_ (g_ rfl) rfl (al_ (gM_ _ (by first | omega | (simp; omega))) rfl (.refl _) (fun _ _ _ => trivial) rfl fun r2 hr2 => ?_))
    refine a_ (g_ rfl) rfl ?_
    cases r2
    · skip
      refine q_ rfl rfl rfl rfl (q_ rfl rfl rfl rfl (q_ rfl rfl rfl rfl (q_ rfl rfl rfl rfl (q_ rfl rfl rfl rfl (q_ rfl rfl rfl rfl (a_ (F_ rfl rfl) rfl (a_ (e_ rfl) rfl (d_ (c_ rfl ?_)))))))))
      refine B_ ?_
      exact aj_ gv_ () (y_ rfl (by simp [bF_, *] <;> omega)) (.refl _) (fun _ _ _ => trivial)
    · skip
      refine n_ rfl rfl (a_ (g_ rfl) rfl (n_ rfl rfl (a_ (bf_ rfl) rfl (n_ rfl rfl (a_ (g_ rfl) rfl (n_ rfl rfl (a_ (g_ rfl) rfl (n_ rfl rfl (al_ (gM_ _ (by first | omega | (simp; omega))) rfl (.refl _) (fun _ _ _ => trivial) rfl fun r3 hr3 => ?_)))))))))
      refine n_ rfl rfl (a_ (F_ rfl rfl) rfl (a_ (K_ rfl rfl) rfl (a_ (e_ rfl) rfl (d_ (c_ rfl (B_ ?_))))))
      exact aj_ gv_ () (y_ rfl (by simp [bF_, *] <;> omega)) (.refl _) (fun _ _ _ => trivial)
  · skip
    replace hr1 := of_decide_eq_true hr1
    refine p_ rfl (f_ (b_ (a_ (e_ rfl) rfl (d_ (c_ rfl (B_ ?_))))))
    exact aj_ gv_ () (y_ rfl (by simp [bF_, *] <;> omega)) (.refl _) (fun _ _ _ => trivial)
theorem er_ (s : Str) : Fn0 Tryz.prog 63 #[str s] (.bool (bF_ s)) := by
  cases hk : ixS 58 s with
  | none => exact hG_ s hk
  | some k => exact hF_ s k hk (jd_ hk)
theorem dE_ (s : Str) (hs : s.length ≤ 140737488351232) :
    Fn0 Tryz.prog 25 #[str s] (.int .i64 (if bb_ s then 0 else 20)) := by
  refine M_ Tryz.func25 rfl rfl Tryz.ntmps25 rfl fun v0 => ?_
  refine f_ (b_ (a_ (e_ rfl) rfl (d_ (c_ rfl (f_ (f_ (b_ (a_ (g_ rfl) rfl (al_ (er_ _) rfl (.refl _) (fun _ _ _ => trivial) rfl fun r1 hr1 => ?_)))))))))
  refine a_ (g_ rfl) rfl ?_
  cases r1
  · skip
    refine n_ rfl rfl (a_ (g_ rfl) rfl (n_ rfl rfl (al_ (eE_ _ hs) rfl (.refl _) (fun _ _ _ => trivial) rfl fun r2 hr2 => ?_)))
    refine a_ (F_ rfl rfl) rfl (d_ (c_ rfl ?_))
    cases r2
    · skip
      refine r_ rfl (D_ (c_ rfl (f_ (b_ (a_ (e_ rfl) rfl (d_ (c_ rfl (B_ ?_))))))))
      exact aj_ Tryz.results25 () (az_ rfl (by simp [bb_, *])) (.refl _) (fun _ _ _ => trivial)
    · skip
      refine p_ rfl (f_ (b_ (a_ (e_ rfl) rfl (d_ (c_ rfl (B_ ?_))))))
      exact aj_ Tryz.results25 () (az_ rfl (by simp [bb_, *])) (.refl _) (fun _ _ _ => trivial)
  · skip
    refine q_ rfl rfl rfl rfl (q_ rfl rfl rfl rfl (a_ (K_ rfl rfl) rfl (d_ (c_ rfl (p_ rfl (f_ (b_ (a_ (e_ rfl) rfl (d_ ?_)))))))))
    refine c_ rfl (B_ ?_)
    exact aj_ Tryz.results25 () (az_ rfl (by simp [bb_, *])) (.refl _) (fun _ _ _ => trivial)
theorem cY_ (s : Str) (hs : s.length ≤ 140737488351232) :
    Fn0 Tryz.prog 73 #[str s] (.bool (bb_ s)) := by
  refine M_ Tryz.func73 rfl rfl Tryz.ntmps73 rfl fun v0 => ?_
  refine f_ (b_ (a_ (e_ rfl) rfl (d_ (c_ rfl (f_ (b_ (a_ (g_ rfl) rfl (A_ (dE_ s hs) rfl (.refl _) (fun _ _ _ => trivial) rfl fun _ => ?_))))))))
  refine v_ (ai_ rfl rfl) rfl fun r1 hr1 => ?_
  refine a_ (e_ rfl) rfl (d_ (c_ rfl (B_ ?_)))
  exact aj_ Tryz.results73 () (y_ rfl (by subst_vars; cases bb_ s <;> rfl)) (.refl _) (fun _ _ _ => trivial)
end Go.Proofs.YtoafjmalfclpoaaGreatDoor
namespace Go.Proofs.YtoafjmalfclpoaaGreatDoor
open Go Go.Sx Go.Proofs
attribute [local irreducible] Code.wp wpList wpAnyH
open Go.Vs
theorem fits_c : ∀ (m : Nat) (c : Con), c.sz ≤ m → c.ok → ∀ (d n bs : Nat), d ≤ 9 → n ≤ 64 → ∀ r, c.fits d n = r →
  Tri Tryz.prog 86 #[c.val, .int .i64 (d : Int), zp_ bs 0] [(bs, .cells #[.int .i64 (n : Int)] 3 (0, 0))] [c.memF] (fun _ : Unit => .bool r.1) (fun _ => [(bs, .cells #[.int .i64 (r.2 : Int)] 3 (0, 0))]) (fun _ => []) := by
 intro m
 induction m with
 | zero => intro c h; have := c.sz_pos; omega
 | succ m ih =>
  intro c hm hok d n bs hd hn r hr
  obtain ⟨k, nm, lo, hi, ad, cap, ps⟩ := c
  have hlen := Con.ok_len hok
  simp only [Con.parts, Con.cap] at hlen
  refine M_ Tryz.func86 rfl rfl Tryz.ntmps86 rfl fun v0 => ?_
  refine f_ (b_ (aI_ rfl rfl fun b1 => ?_))
  refine a_ (e_ rfl) rfl (d_ (c_ rfl (f_ (b_ (a_ (g_ rfl) rfl (a_ (bv_ rfl) rfl (a_ (t_ 1 O_ rfl rfl rfl) rfl (a_ (R_ rfl rfl rfl (aq_ (by omega) (by omega))) rfl (a_ (bv_ rfl) rfl ?_)))))))))
  refine ah_ 1 L_ rfl rfl rfl rfl rfl rfl (d_ (c_ rfl (f_ (f_ (b_ (a_ (g_ rfl) rfl (v_ (ce_ rfl rfl) rfl fun r1 hr1 => ?_)))))))
  refine a_ (g_ rfl) rfl ?_
  cases r1
  ·
   replace hr1 := of_decide_eq_false hr1
   try dsimp only [Con.kind, Con.parts, Con.name, Con.lo, Con.hi, Con.cap, Con.ad] at hr1
   refine n_ rfl rfl (a_ (g_ rfl) rfl (n_ rfl rfl (a_ (bv_ rfl) rfl (n_ rfl rfl (a_ (t_ 1 O_ rfl rfl rfl) rfl (n_ rfl rfl (v_ (ce_ rfl rfl) rfl fun r2 hr2 => ?_)))))))
   refine a_ (F_ rfl rfl) rfl (d_ (c_ rfl ?_))
   cases r2
   ·
    replace hr2 := of_decide_eq_false hr2
    try dsimp only [Con.kind, Con.parts, Con.name, Con.lo, Con.hi, Con.cap, Con.ad] at hr2
    have hc0 : ¬ (8 < d ∨ 64 < n + 1) := by omega
    refine r_ rfl (D_ (c_ rfl (f_ (f_ (b_ (a_ (m_ C_ rfl rfl rfl bc_) rfl (a_ (t_ 0 bt_ rfl rfl rfl) rfl (a_ (ar_ P_ rfl) rfl (a_ (g_ rfl) rfl ?_)))))))))
    refine d_ (c_ rfl (T_ (bs_ [(1, .int .i64 (d : Int)), (2, zp_ bs 0), (23, .slice ad ps.length cap), (24, .int .i64 (ps.length : Int)), (25, .int .i64 ((0 : Nat) : Int))] ⟨rfl, rfl, rfl, rfl, rfl, trivial⟩ ?_)))
    refine bE_ (ι := {q : Nat × Nat // q.1 ≤ ps.length ∧ Con.fits.fitss (ps.take q.1) (d + 1) (n + 1) = (true, q.2) ∧ q.2 ≤ 64}) (fun i => [(1, .int .i64 (d : Int)), (2, zp_ bs 0), (23, .slice ad ps.length cap), (24, .int .i64 (ps.length : Int)), (25, .int .i64 (i.1.1 : Int))]) (fun i => [_, (bs, .cells #[.int .i64 (i.1.2 : Int)] 3 (0, 0))]) (fun _ => _) (fun i => ps.length - i.1.1) ⟨(0, n + 1), by simp [Con.fits.fitss]; omega⟩ ?_
    rintro ⟨⟨i, m1⟩, hk⟩
    refine bs_ [(1, .int .i64 (d : Int)), (2, zp_ bs 0), (23, .slice ad ps.length cap), (24, .int .i64 (ps.length : Int)), (25, .int .i64 (i : Int))] ⟨rfl, rfl, rfl, rfl, rfl, trivial⟩ ?_
    refine f_ (b_ (v_ (aN_ rfl rfl) rfl fun r3 hr3 => ?_))
    refine d_ (c_ rfl (f_ ?_))
    cases r3
    ·
     replace hr3 := of_decide_eq_false hr3
     try dsimp only [Con.kind, Con.parts, Con.name, Con.lo, Con.hi, Con.cap, Con.ad] at hr3
     refine r_ rfl (aU_ rfl (c_ rfl (f_ (b_ (a_ (e_ rfl) rfl (d_ (c_ rfl (B_ ?_))))))))
     obtain rfl : r = (true, m1) := by rw [← hr]; exact Con.fits_yes hc0 (by omega) hk.2.1
     exact aj_ Tryz.results86 () rfl (dI_ (i := 1) rfl) (fun _ _ _ => trivial)
    ·
     replace hr3 := of_decide_eq_true hr3
     try dsimp only [Con.kind, Con.parts, Con.name, Con.lo, Con.hi, Con.cap, Con.ad] at hr3
     have hlt : i < ps.length := by omega
     obtain ⟨p, hp⟩ : ∃ p, ps[i]? = some p := ⟨_, List.getElem?_eq_getElem hlt⟩
     have hpm : p ∈ ps := List.mem_of_getElem? hp
     refine p_ rfl (D_ (c_ rfl (f_ (T_ (f_ (b_ (a_ (am_ P_ k_ rfl rfl (fun v _ h => Con.row_addr (c := .mk k nm lo hi ad cap ps) h.1 hp) (by omega) (by omega)) rfl (a_ (aH_ (us := p.cells) x_ k_ rfl (fun v _ h => ((Con.mem_iff (.mk k nm lo hi ad cap ps) v).1 h.1).1) p.cells_len (Con.part_cells (c := .mk k nm lo hi ad cap ps) (i := i) hp)) rfl (an_ aw_ rfl fun b2 => ?_)))))))))
     refine dw_ 0 k_ rfl rfl rfl rfl (d_ (c_ rfl (f_ (b_ (a_ (cs_ 0 x_ k_ rfl rfl) rfl (a_ (g_ rfl) rfl (a_ (R_ rfl rfl rfl (aq_ (by omega) (by omega))) rfl (a_ (g_ rfl) rfl (gE_ 2 (ih p (by have := Con.sz_part (c := .mk k nm lo hi ad cap ps) hpm; omega) (Con.ok_part (c := .mk k nm lo hi ad cap ps) hok hpm) (d + 1) m1 bs (by omega) hk.2.2 _ rfl) rfl rfl (fun v _ h => ⟨Con.mem_part (c := .mk k nm lo hi ad cap ps) h.1 hpm, trivial⟩) rfl fun r4 hr4 => ?_)))))))))
     refine a_ (bf_ rfl) rfl (d_ (c_ rfl ?_))
     cases r4
     ·
      try dsimp only [Con.kind, Con.parts, Con.name, Con.lo, Con.hi, Con.cap, Con.ad] at hr4
      refine p_ rfl (f_ (b_ (a_ (e_ rfl) rfl (d_ (c_ rfl (B_ ?_))))))
      obtain rfl : r = (false, (p.fits (d + 1) m1).2) := by rw [← hr]; exact Con.fits_no hc0 hp hk.2.1 (by assumption)
      exact aj_ Tryz.results86 () rfl (dI_ (i := 2) rfl) (fun _ _ _ => trivial)
     ·
      try dsimp only [Con.kind, Con.parts, Con.name, Con.lo, Con.hi, Con.cap, Con.ad] at hr4
      refine r_ rfl (D_ (c_ rfl (b_ (a_ (R_ rfl rfl rfl (aq_ (by omega) (by omega))) rfl (a_ (g_ rfl) rfl (d_ (o_ rfl ?_)))))))
      exact av_ ⟨(i + 1, (p.fits (d + 1) m1).2), hlt, Con.fitss_step hp hk.2.1 (by assumption)⟩ (by simp; omega) ⟨rfl, rfl, rfl, rfl, rfl, trivial⟩ (@List.perm_append_comm _ [_] _) (fun _ _ h => h)
   ·
    replace hr2 := of_decide_eq_true hr2
    try dsimp only [Con.kind, Con.parts, Con.name, Con.lo, Con.hi, Con.cap, Con.ad] at hr2
    refine p_ rfl (f_ (b_ (a_ (e_ rfl) rfl (d_ (c_ rfl (B_ ?_))))))
    obtain rfl : r = (false, n + 1) := by rw [← hr, Con.fits_eq]; simp <;> omega
    exact aj_ Tryz.results86 () rfl (dI_ (i := 1) rfl) (fun _ _ _ => trivial)
  ·
   replace hr1 := of_decide_eq_true hr1
   try dsimp only [Con.kind, Con.parts, Con.name, Con.lo, Con.hi, Con.cap, Con.ad] at hr1
   refine q_ rfl rfl rfl rfl (q_ rfl rfl rfl rfl (q_ rfl rfl rfl rfl (q_ rfl rfl rfl rfl (a_ (K_ rfl rfl) rfl (d_ (c_ rfl (p_ rfl (f_ (b_ ?_)))))))))
   refine a_ (e_ rfl) rfl (d_ (c_ rfl (B_ ?_)))
   obtain rfl : r = (false, n + 1) := by rw [← hr, Con.fits_eq]; simp <;> omega
   exact aj_ Tryz.results86 () rfl (dI_ (i := 1) rfl) (fun _ _ _ => trivial)
end Go.Proofs.YtoafjmalfclpoaaGreatDoor
namespace Go.Proofs.YtoafjmalfclpoaaGreatDoor
open Go Go.Sx Go.Proofs
attribute [local irreducible] Code.wp wpList wpAnyH
open Go.Vs
def jr_ (v : Vw) : Prop := v.sl ∧ v.im 4 ∧ ∃ T fz, v.w.heap[4]? = some (.cells (Lib.pow10Tab.map fun z => Value.int .u64 z).toArray T fz)
theorem iY_ {v v' : Vw} (h : v.le v') (hp : jr_ v) : jr_ v' := by
  obtain ⟨h0, h1, T, fz, h2⟩ := hp
  exact ⟨by rw [h.sl]; exact h0, h.imUp _ h1, T, fz, by rw [h.block _ h1]; exact h2⟩
theorem jV_ {v : Vw} (hp : jr_ v) : Lib.TabIs Tryz.prog v.w "internal/strconv.uint64pow10" .u64 Lib.pow10Tab := by
  obtain ⟨_, h1, T, fz, h2⟩ := hp
  have hg : Tryz.prog.globalNamed "internal/strconv.uint64pow10" = some 4 := by kernel_rfl
  simp only [Lib.TabIs, World.var?, hg, Option.bind_some, h2]
def bH_ : Fct where
  p := fun v => bq_ v (some ⟨2, 0, none⟩) (eS_.flatMap jt_) ∧ bq_ v (some ⟨0, 0, none⟩) (ku_.flatMap Use.cells) ∧ bq_ v (some ⟨1, 0, none⟩) (js_.flatMap NUse.cells) ∧ jr_ v
  mono := fun v v' h hp => ⟨(bQ_ _ _).mono v v' h hp.1, (bQ_ _ _).mono v v' h hp.2.1, (bQ_ _ _).mono v v' h hp.2.2.1, iY_ h hp.2.2.2⟩
def tabN : Fct := bQ_ (some ⟨1, 0, none⟩) (js_.flatMap NUse.cells)
end Go.Proofs.YtoafjmalfclpoaaGreatDoor
