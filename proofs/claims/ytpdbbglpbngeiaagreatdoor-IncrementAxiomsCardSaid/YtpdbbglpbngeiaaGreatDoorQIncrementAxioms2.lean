/-
  Part of the proof of the law IncrementAxioms over this seat: the small logic, the data, the contracts of functions (no condition).
-/
import Derived.Test.YtpdbbglpbngeiaaGreatDoorQIncrementAxioms1
import Derived.Laws.MakeOwn
import Derived.Laws.OwnMore
import Derived.ArgAppend
import Derived.Shelf.Strings.Builder1
import Derived.Shelf.Strings.Builder2
import Derived.Shelf.Strings.OnBuilder
import Derived.Shelf.Small.Bits
import Derived.Shelf.Small.Strs
import Derived.Shelf.Small.Wraps
import Derived.Shelf.Strconv.Itoa0
import Derived.Shelf.Strconv.Itoa1
import Derived.Shelf.LaysM
import Derived.Shelf.Strconv.Itoa2
import Derived.Shelf.Strconv.Itoa3
import Derived.Shelf.Strings.Search1
import Derived.Shelf.Strings.Search2
import Derived.Shelf.Strings.Search3
import Derived.Shelf.Strings.Cut
import Derived.Shelf.Strings.Count
import Derived.Shelf.Strings.Shaped
import Derived.Shelf.Sort.Plain
import Derived.Shelf.Strings.Prefix
import Derived.Shelf.Unicode.DecodeSlow
import Derived.Shelf.Slices.CompactS
import Derived.Shelf.Slices.Cells
import Derived.Shelf.Slices.In.SortNone
import Derived.Test.YtpdbbglpbngeiaaGreatDoorProg
set_option linter.unusedVariables false
set_option linter.unusedSimpArgs false
set_option linter.unusedSectionVars false
namespace Go.Sx
open Go
theorem cb_ {P : Program} {N : Nat} {fr : Fr} {H : Hp} {Γ : List Fct} {op : Op} {ty : TypeId} {x y : Value} (h : Yld P N fr H Γ op ty x) (e : x = y) : Yld P N fr H Γ op ty y := e ▸ h
theorem oH_ {α : Type} (f : α → List Value) (n : Nat) (hf : ∀ x, (f x).length = n) : ∀ (l : List α) (i : Nat), (l.flatMap f).drop (i * n) = (l.drop i).flatMap f
  | l, 0 => by simp
  | [], i + 1 => by simp
  | x :: l, i + 1 => by
    simp only [List.flatMap_cons, List.drop_succ_cons]
    rw [← oH_ f n hf l i, List.drop_append, hf, List.drop_of_length_le (by rw [hf, Nat.add_mul]; omega), List.nil_append]
    congr 1
    rw [Nat.add_mul]; omega
theorem oG_ {α : Type} (f : α → List Value) (n : Nat) (hf : ∀ x, (f x).length = n) : ∀ (l : List α) (i : Nat), (l.flatMap f).take (i * n) = (l.take i).flatMap f
  | l, 0 => by simp
  | [], i + 1 => by simp
  | x :: l, i + 1 => by
    simp only [List.flatMap_cons, List.take_succ_cons]
    rw [← oG_ f n hf l i, List.take_append, hf, List.take_of_length_le (by rw [hf, Nat.add_mul]; omega)]
    congr 2
    rw [Nat.add_mul]; omega
theorem ca_.slice {α : Type} {f : α → List Value} {n : Nat} (hf : ∀ x, (f x).length = n) {v : Vw} {ad : Option Addr} {l : List α} {cap : Nat} (h : ca_ v ad (l.flatMap f)) (hc : l.length ≤ cap) (i k : Nat) : ca_ v (Sx.sad ad cap i n) (((l.drop i).take k).flatMap f) := by
  refine h.sad _ (fun j x hj => ?_) (by rw [ea_ f n hf]; exact Nat.mul_le_mul_right _ hc)
  rw [← oG_ f n hf, ← oH_ f n hf, List.getElem?_take] at hj
  split at hj
  · rwa [List.getElem?_drop] at hj
  · cases hj
end Go.Sx
namespace Go.Vs
open Go Go.Sx
namespace Con
def pre (c : Con) (j : Nat) : Con := .mk 5 [] 0 0 (sad c.ad c.cap 0 5) (c.cap - 0) (c.parts.take j)
theorem pre_mem {c : Con} (hok : c.ok) {v : Vw} (h : c.mem v) (j : Nat) : (c.pre j).mem v := by
  rw [mem_iff] at h ⊢
  refine ⟨?_, fun p hp => h.2 p (List.mem_of_mem_take hp)⟩
  have := h.1.slice cells_len (ok_len hok).1 0 j
  exact this
theorem pre_ok {c : Con} (hok : c.ok) (j : Nat) : (c.pre j).ok := by
  have h := ok_len hok
  refine ⟨by decide, by decide, by simp, by decide, by decide, by decide, by decide, ?_, by omega, oks_iff.2 fun p hp => ok_part hok (List.mem_of_mem_take hp)⟩
  simp; omega
def andP (frm : Int) (c : Con) : List Con → Nat → Str → List Pc → List Pc
  | [], _, _, l => l
  | p :: r, j, f, l => andP frm c r (j + 1) (c.pre (j + 1)).atom (ins frm l ⟨2, f, p.atom, (c.pre (j + 1)).atom, [], [], [], 0, 0, 0⟩)
theorem np_ (frm : Int) (c : Con) : ∀ (r : List Con) (j : Nat) (f : Str) (l : List Pc), (andP frm c r j f l).length ≤ l.length + r.length
  | [], _, _, l => by simp [andP]
  | p :: r, j, f, l => by
    have h1 := np_ frm c r (j + 1) (c.pre (j + 1)).atom (ins frm l ⟨2, f, p.atom, (c.pre (j + 1)).atom, [], [], [], 0, 0, 0⟩)
    have h2 := bP_ frm l ⟨2, f, p.atom, (c.pre (j + 1)).atom, [], [], [], 0, 0, 0⟩
    simp only [andP, List.length_cons]
    omega
def leftP (frm : Int) : Con → List Pc → List Pc
  | c@(mk k nm lo hi _ _ ps), l =>
    if k = 5 then andP frm c (ps.drop 1) 1 ((ps.map atom).headD []) (lefts frm ps l)
    else if k = 6 then ins frm (lefts frm ps l) ⟨4, (ps.map atom).headD [], [], c.atom, nm, [], [], 0, 0, 0⟩
    else if k = 7 then ins frm l ⟨9, [], [], c.atom, nm, [], [], lo, hi, 0⟩
    else l
where lefts (frm : Int) : List Con → List Pc → List Pc
  | [], l => l
  | p :: ps, l => lefts frm ps (leftP frm p l)
theorem leftP_eq (frm : Int) (c : Con) (l : List Pc) : c.leftP frm l =
    if c.kind = 5 then andP frm c (c.parts.drop 1) 1 ((c.parts.map atom).headD []) (leftP.lefts frm c.parts l)
    else if c.kind = 6 then ins frm (leftP.lefts frm c.parts l) ⟨4, (c.parts.map atom).headD [], [], c.atom, c.name, [], [], 0, 0, 0⟩
    else if c.kind = 7 then ins frm l ⟨9, [], [], c.atom, c.name, [], [], c.lo, c.hi, 0⟩
    else l := by cases c; simp only [leftP]; rfl
theorem hW_ (frm : Int) : ∀ (xs ys : List Con) (l : List Pc), leftP.lefts frm (xs ++ ys) l = leftP.lefts frm ys (leftP.lefts frm xs l)
  | [], _, _ => rfl
  | x :: xs, ys, l => by simp only [List.cons_append, leftP.lefts]; exact hW_ frm xs ys _
theorem lefts_step (frm : Int) {ps : List Con} {p : Con} {i : Nat} (hp : ps[i]? = some p) (l : List Pc) : leftP.lefts frm (ps.take (i + 1)) l = p.leftP frm (leftP.lefts frm (ps.take i) l) := by
  rw [take_snoc hp, hW_]; rfl
theorem szs_len : ∀ ps : List Con, ps.length ≤ sz.szs ps
  | [] => by simp [sz.szs]
  | p :: ps => by have := szs_len ps; have := p.sz_pos; simp only [sz.szs, List.length_cons]; omega
theorem leftP_len (frm : Int) : ∀ (m : Nat) (c : Con), c.sz ≤ m → ∀ l, (c.leftP frm l).length + 2 ≤ l.length + 2 * c.sz + 0 + 1
  | 0, c, h => by have := c.sz_pos; omega
  | m + 1, c, h => fun l => by
    have key : ∀ ps : List Con, (∀ p ∈ ps, p.sz ≤ m) → ∀ l, (leftP.lefts frm ps l).length + ps.length ≤ l.length + 2 * sz.szs ps := by
      intro ps
      induction ps with
      | nil => intro _ l; simp [leftP.lefts]
      | cons p ps ih =>
        intro hp l
        have h1 := leftP_len frm m p (hp p (by simp)) l
        have h2 := ih (fun q hq => hp q (by simp [hq])) (p.leftP frm l)
        simp only [leftP.lefts, sz.szs, List.length_cons]
        omega
    have hk := key c.parts (fun p hp => by have := sz_part hp; omega) l
    have hsz : c.sz = 1 + sz.szs c.parts := by cases c; simp only [sz, parts]
    have hl := szs_len c.parts
    rw [leftP_eq]
    split
    · have := np_ frm c (c.parts.drop 1) 1 ((c.parts.map atom).headD []) (leftP.lefts frm c.parts l)
      simp only [List.length_drop] at this
      omega
    · split
      · have := bP_ frm (leftP.lefts frm c.parts l) ⟨4, (c.parts.map atom).headD [], [], c.atom, c.name, [], [], 0, 0, 0⟩
        omega
      · split
        · have := bP_ frm l ⟨9, [], [], c.atom, c.name, [], [], c.lo, c.hi, 0⟩
          omega
        · omega
def rightP (frm : Int) : Con → List Pc → List Pc
  | c@(mk k nm lo hi _ _ ps), l =>
    if k = 5 then rights frm c.atom ps l
    else if k = 6 then righty frm ps (ins frm l ⟨3, c.atom, [], (ps.map atom).headD [], nm, [], [], 0, 0, 0⟩)
    else if k = 7 then ins frm l ⟨8, c.atom, [], [], nm, [], [], lo, hi, 0⟩
    else l
where
  rights (frm : Int) (a : Str) : List Con → List Pc → List Pc
  | [], l => l
  | p :: ps, l => rights frm a ps (rightP frm p (ins frm l ⟨1, a, [], p.atom, [], [], [], 0, 0, 0⟩))
  righty (frm : Int) : List Con → List Pc → List Pc
  | [], l => l
  | p :: ps, l => righty frm ps (rightP frm p l)
theorem rightP_eq (frm : Int) (c : Con) (l : List Pc) : c.rightP frm l =
    if c.kind = 5 then rightP.rights frm c.atom c.parts l
    else if c.kind = 6 then rightP.righty frm c.parts (ins frm l ⟨3, c.atom, [], (c.parts.map atom).headD [], c.name, [], [], 0, 0, 0⟩)
    else if c.kind = 7 then ins frm l ⟨8, c.atom, [], [], c.name, [], [], c.lo, c.hi, 0⟩
    else l := by cases c; simp only [rightP]; rfl
theorem hq_ (frm : Int) (a : Str) : ∀ (xs ys : List Con) (l : List Pc), rightP.rights frm a (xs ++ ys) l = rightP.rights frm a ys (rightP.rights frm a xs l)
  | [], _, _ => rfl
  | x :: xs, ys, l => by simp only [List.cons_append, rightP.rights]; exact hq_ frm a xs ys _
theorem rights_step (frm : Int) (a : Str) {ps : List Con} {p : Con} {i : Nat} (hp : ps[i]? = some p) (l : List Pc) : rightP.rights frm a (ps.take (i + 1)) l = p.rightP frm (ins frm (rightP.rights frm a (ps.take i) l) ⟨1, a, [], p.atom, [], [], [], 0, 0, 0⟩) := by
  rw [take_snoc hp, hq_]; rfl
theorem rightP_len (frm : Int) : ∀ (m : Nat) (c : Con), c.sz ≤ m → ∀ l, (c.rightP frm l).length + 1 ≤ l.length + 2 * c.sz
  | 0, c, h => by have := c.sz_pos; omega
  | m + 1, c, h => fun l => by
    have key : ∀ ps : List Con, (∀ p ∈ ps, p.sz ≤ m) → ∀ a l, (rightP.rights frm a ps l).length ≤ l.length + 2 * sz.szs ps := by
      intro ps
      induction ps with
      | nil => intro _ a l; simp [rightP.rights, sz.szs]
      | cons p ps ih =>
        intro hp a l
        have h0 := bP_ frm l ⟨1, a, [], p.atom, [], [], [], 0, 0, 0⟩
        have h1 := rightP_len frm m p (hp p (by simp)) (ins frm l ⟨1, a, [], p.atom, [], [], [], 0, 0, 0⟩)
        have h2 := ih (fun q hq => hp q (by simp [hq])) a (p.rightP frm (ins frm l ⟨1, a, [], p.atom, [], [], [], 0, 0, 0⟩))
        simp only [rightP.rights, sz.szs]
        omega
    have key2 : ∀ ps : List Con, (∀ p ∈ ps, p.sz ≤ m) → ∀ l, (rightP.righty frm ps l).length ≤ l.length + 2 * sz.szs ps := by
      intro ps
      induction ps with
      | nil => intro _ l; simp [rightP.righty, sz.szs]
      | cons p ps ih =>
        intro hp l
        have h1 := rightP_len frm m p (hp p (by simp)) l
        have h2 := ih (fun q hq => hp q (by simp [hq])) (p.rightP frm l)
        simp only [rightP.righty, sz.szs]
        omega
    have hps : ∀ p ∈ c.parts, p.sz ≤ m := fun p hp => by have := sz_part hp; omega
    have hsz : c.sz = 1 + sz.szs c.parts := by cases c; simp only [sz, parts]
    rw [rightP_eq]
    split
    · have := key c.parts hps c.atom l; omega
    · split
      · have h0 := bP_ frm l ⟨3, c.atom, [], (c.parts.map atom).headD [], c.name, [], [], 0, 0, 0⟩
        have := key2 c.parts hps (ins frm l ⟨3, c.atom, [], (c.parts.map atom).headD [], c.name, [], [], 0, 0, 0⟩)
        omega
      · split
        · have := bP_ frm l ⟨8, c.atom, [], [], c.name, [], [], c.lo, c.hi, 0⟩
          omega
        · omega
end Con
end Go.Vs
namespace Go.Sx
open Go
theorem ca_.rest {α : Type} {f : α → List Value} {n : Nat} (hf : ∀ x, (f x).length = n) {v : Vw} {ad : Option Addr} {l : List α} {cap : Nat} (h : ca_ v ad (l.flatMap f)) (hc : l.length ≤ cap) (i : Nat) : ca_ v (Sx.sad ad cap i n) ((l.drop i).flatMap f) := by
  have := h.slice hf hc i l.length
  rwa [List.take_of_length_le (by simp)] at this
theorem ik_ {α : Type} {l : List α} {x : α} {i : Nat} (hp : l[i]? = some x) : l.drop i = x :: l.drop (i + 1) := by
  have hi := (List.getElem?_eq_some_iff.1 hp).1
  rw [List.getElem?_eq_getElem hi] at hp
  simp only [Option.some.injEq] at hp
  subst hp
  exact List.drop_eq_getElem_cons hi
theorem nc_ {α : Type} {l : List α} {x d : α} (hp : l[0]? = some x) : l.headD d = x := by cases l <;> simp_all
end Go.Sx
namespace Go.Vs
open Go Go.Sx
namespace Ax
def chainP (frm : Int) (role : Str) : List Str → Str → List Pc → List Pc
  | [], _, l => l
  | r :: t, f, l =>
    let all := if t = [] then role else f ++ [46] ++ r
    chainP frm role t all (ins frm l ⟨6, [], [], [], f, r, all, 0, 0, 0⟩)
def pieces (frm : Int) (x : Ax) : List Pc :=
  if x.kind = 1 then ins frm (x.right.rightP frm (x.left.leftP frm [])) ⟨1, x.left.atom, [], x.right.atom, [], [], [], 0, 0, 0⟩
  else if x.kind = 2 then
    ins frm (x.left.rightP frm (x.right.leftP frm (ins frm (x.right.rightP frm (x.left.leftP frm [])) ⟨1, x.left.atom, [], x.right.atom, [], [], [], 0, 0, 0⟩))) ⟨1, x.right.atom, [], x.left.atom, [], [], [], 0, 0, 0⟩
  else if x.kind = 3 then ins frm (x.right.leftP frm (x.left.leftP frm [])) ⟨2, x.left.atom, x.right.atom, [33], [], [], [], 0, 0, 0⟩
  else if x.kind = 4 then ins frm (x.right.rightP frm []) ⟨4, [42], [], x.right.atom, x.role, [], [], 0, 0, 0⟩
  else if x.kind = 5 then ins frm [] ⟨5, [], [], [], x.roles.headD [], [], x.role, 0, 0, 0⟩
  else if x.kind = 6 then chainP frm x.role (x.roles.drop 1) (x.roles.headD []) []
  else if x.kind = 7 then ins frm [] ⟨7, [], [], [], x.role, [], [], 0, 0, 0⟩
  else if x.kind = 8 then ins frm (x.right.rightP frm []) ⟨1, [123] ++ x.a ++ [125], [], x.right.atom, [], [], [], 0, 0, 0⟩
  else ins frm [] ⟨3, [123] ++ x.a ++ [125], [], [123] ++ x.b ++ [125], x.role, [], [], 0, 0, 0⟩
structure Good (x : Ax) : Prop where
  k1 : 1 ≤ x.kind
  k9 : x.kind ≤ 9
  left : x.kind ≤ 3 → x.left.check = 0
  right : x.kind ≤ 4 ∨ x.kind = 8 → x.right.check = 0
  role : x.kind = 4 ∨ x.kind = 5 ∨ x.kind = 6 ∨ x.kind = 7 ∨ x.kind = 9 → bL_ x.role = true
  roles : ∀ r ∈ x.roles, bL_ r = true
  one : x.kind = 5 → x.roles.length = 1
  chain : x.kind = 6 → 2 ≤ x.roles.length ∧ x.roles.length ≤ 4
  a : x.kind = 8 ∨ x.kind = 9 → bi_ x.a = true
  b : x.kind = 9 → bi_ x.b = true
theorem good_of {x : Ax} (h : x.check = 0) : Good x := by
  unfold check at h
  split at h
  · cases h
  · rename_i hs
    split at h
    · cases h
    · rename_i hn
      split at h
      · rename_i h1; exact absurd h h1.2
      · rename_i h1
        split at h
        · rename_i h2; exact absurd h h2.2
        · rename_i h2
          clear h
          simp only [Bool.not_eq_false] at hs hn
          have hk : 1 ≤ x.kind ∧ x.kind ≤ 9 := by
            unfold shaped at hs
            split at hs
            · cases hs
            · rename_i hh; simp only [not_or] at hh; omega
          have hk' : x.kind = 1 ∨ x.kind = 2 ∨ x.kind = 3 ∨ x.kind = 4 ∨ x.kind = 5 ∨ x.kind = 6 ∨ x.kind = 7 ∨ x.kind = 8 ∨ x.kind = 9 := by omega
          unfold shaped at hs
          rw [if_neg (by omega)] at hs
          have hr : ∀ r ∈ x.roles, bL_ r = true := by
            unfold namedU at hn
            simp only [Bool.and_eq_true] at hn
            exact fun r hr => List.all_eq_true.1 hn.2 r hr
          unfold namedU at hn
          rcases hk' with e | e | e | e | e | e | e | e | e <;> simp [us, pZ_, e] at hs hn h1 h2 <;>
            refine ⟨by omega, by omega, fun _ => ?_, fun _ => ?_, fun _ => ?_, hr, fun _ => ?_, fun _ => ?_, fun _ => ?_, fun _ => ?_⟩ <;>
            first | omega | assumption | exact hn.1 | exact hn.2.1 | exact hn.2.2.1 | (simp_all; done) | (exact ⟨by omega, by omega⟩)
end Ax
end Go.Vs
namespace Go.Sx
open Go
section
variable {P : Program} {N : Nat} {v0 : Vw} {H0 : Hp} {R : Exit → Act → World → Prop} {K : List Kt} {fr : Fr} {H : Hp} {Γ : List Fct}
variable {ops : Array Oper} {l : List Oper} {d : Nat} {ty : TypeId} {ps : String} {af : Array Edge}
theorem ky_ {t : TypeId} {x : Operand} {b n : Nat} (i : Nat) {T : TypeId} {fz : Nat × Nat} {us : List Value} (ha : ∀ w, (isAgg t).run P w = .ok true w) (hs : ∀ w, (sizeOf t).run P w = .ok n w) (hn : us.length = n)
    (hx : Fr.ev fr x = some (.pointer (some ⟨b, 0, none⟩))) (hi : H[i]? = some (b, .cells us.toArray T fz)) : Yld P N fr H Γ (.load t x) ty (.agg us.toArray) :=
  L_ i ha hs hx hi (by have := mV_ us; rw [hn] at this; exact this)
theorem jE_ {t : TypeId} {x y : Operand} {b n : Nat} (i : Nat) {cur : Array Value} {T : TypeId} {us : List Value} (hs : ∀ w, (sizeOf t).run P w = .ok n w) (hn : us.length = n) (h1 : us.all Value.oneCell' = true)
    (hx : Fr.ev fr x = some (.pointer (some ⟨b, 0, none⟩))) (hy : Fr.ev fr y = some (.agg us.toArray)) (hi : H[i]? = some (b, .cells cur T (0, 0))) (hc : cur.size = n)
    (hk : Ops P R N v0 H0 ops l K fr (H.set i (b, .cells us.toArray T (0, 0))) Γ) :
    Ops P R N v0 H0 ops (⟨none, .store t x y, ty, ps, af, none⟩ :: l) K fr H Γ := by
  refine Z_ i hs hx hy hi (by simp [Value.cells, hn]) (by simp [hc]) h1 ?_
  have e : (cur.toList.take 0 ++ (Value.agg us.toArray).cells.toList ++ cur.toList.drop (0 + n)).toArray = us.toArray := by
    have h5 : cur.toList.length = n := by simp [hc]
    simp [Value.cells, List.drop_of_length_le (show cur.toList.length ≤ n by omega)]
  rw [e]
  exact hk
theorem pr_ {b k : Nat} {cur : Array Value} {T : TypeId} {fz : Nat × Nat} {cs : List Value} (i : Nat) (hi : H[i]? = some (b, .cells cur T fz)) (hc : cur.toList.take k = cs) : ∀ v : Vw, v.sat H → aI_ Γ v → ∀ j u, cs[j]? = some u → v.w.cell? ((⟨b, 0, none⟩ : Addr).add j) = some u := by
  intro v h1 _ j u hj
  rw [dE_, Nat.zero_add, eK_ h1 hi]
  rw [← hc, List.getElem?_take] at hj
  split at hj
  · exact hj
  · cases hj
theorem gk_ {k : Act → World → Prop} {e : TypeId} {sz n : Nat} {sv : Value} {xs : List Value} {Hr F : Hp} (hr : bk_ e sz sv n xs Hr) (hH : H.Perm (Hr ++ F))
    (h : ∀ ad cap, sv = .slice ad n cap → n ≤ cap → cap ≤ maxLen → Ok N v0 H0 k fr F (aS_ ad xs :: Γ)) : Ok N v0 H0 k fr H Γ := by
  rcases hr.2 with ⟨h1, h2, h3⟩ | ⟨g, cap, cur, h1, h2, h3, h4, h5, h6⟩
  · subst h1 h2 h3
    have hx : xs = [] := List.eq_nil_of_length_eq_zero (by simpa using hr.1)
    refine at_ hH (mK_ (Γ' := aS_ none xs :: Γ) (fun v _ hg => ⟨.inl hx, hg⟩) (h none 0 rfl (Nat.le_refl _) (Nat.zero_le _)))
  · subst h1 h2
    refine gl_ (aS_ (some ⟨g, 0, none⟩) xs) hH (fun v i1 i2 _ => .inr ⟨g, 0, cur, e, (0, 0), rfl, i1, i2, fun j x hj => ?_⟩) (h _ cap rfl h3 h4)
    rw [← h6, List.getElem?_take] at hj
    split at hj
    · rw [Nat.zero_add]; simpa using hj
    · cases hj
end
end Go.Sx
namespace Go.Vs
open Go Go.Sx
theorem Con.one_cells (c : Con) : c.cells.all Value.oneCell' = true := lL_ c
theorem Ax.one_cells (x : Ax) : x.cells.all Value.oneCell' = true := by
  simp only [Ax.cells, List.all_cons, List.all_append, Con.one_cells]; rfl
def no_ (ad : Option Addr) (l : List Ax) : Fct where
  p := fun v => ca_ v ad (l.flatMap Ax.cells) ∧ ∀ x ∈ l, x.mem v
  mono := fun v v' h hp => ⟨(aS_ ad _).mono v v' h hp.1, fun x hx => x.memF.mono v v' h (hp.2 x hx)⟩
theorem qT_ (frm : Int) (l : List Pc) (p : Pc) : ins frm l p ≠ [] := by
  unfold ins
  split
  · rename_i h; intro e; rw [e] at h; simp at h
  · simp
theorem Ax.chainP_ne (frm : Int) (ro : Str) : ∀ (rs : List Str) (f : Str) (l : List Pc), rs ≠ [] ∨ l ≠ [] → Ax.chainP frm ro rs f l ≠ []
  | [], f, l, h => by rcases h with h | h; exact absurd rfl h; exact h
  | r :: t, f, l, _ => by simp only [Ax.chainP]; exact Ax.chainP_ne frm ro t _ _ (.inr (qT_ _ _ _))
theorem Ax.pieces_ne (frm : Int) {x : Ax} (G : x.Good) : x.pieces frm ≠ [] := by
  unfold Ax.pieces
  repeat' split
  all_goals first | exact qT_ _ _ _ | skip
  rename_i h6
  have := G.chain h6
  exact Ax.chainP_ne _ _ _ _ _ (.inl (by intro e; rw [List.drop_eq_nil_iff] at e; omega))
def cG_ : List Ax → Int
  | [] => 0
  | x :: l => if x.check = 0 then cG_ l else x.check
def go_ : Nat → List Ax → List Pc → Option (List Pc)
  | _, [], p => some p
  | i, x :: l, p => if 16384 < (p ++ x.pieces i).length then none else go_ (i + 1) l (p ++ x.pieces i)
def bn_ (l : List Ax) : List Pc × Int :=
  if 1024 < l.length then ([], 2) else if cG_ l ≠ 0 then ([], cG_ l) else match go_ 0 l [] with | some p => (p, 0) | none => ([], 2)
theorem gA_ : ∀ (xs ys : List Ax), (∀ x ∈ xs, x.check = 0) → cG_ (xs ++ ys) = cG_ ys
  | [], _, _ => rfl
  | x :: xs, ys, h => by simp only [List.cons_append, cG_, h x (by simp), if_true]; exact gA_ xs ys fun y hy => h y (by simp [hy])
theorem dl_ : ∀ {l : List Ax}, (∀ x ∈ l, x.check = 0) → cG_ l = 0
  | [], _ => rfl
  | x :: l, h => by simp only [cG_, h x (by simp), if_true]; exact dl_ fun y hy => h y (by simp [hy])
theorem nf_ {l : List Ax} {x : Ax} {i : Nat} (hx : l[i]? = some x) (h : ∀ y ∈ l.take i, y.check = 0) (hb : x.check ≠ 0) : cG_ l = x.check := by
  have e : l = l.take i ++ x :: l.drop (i + 1) := by rw [← ik_ hx, List.take_append_drop]
  rw [e, gA_ _ _ h]
  simp only [cG_, hb, if_false]
theorem hw_ (frm : Int) {x : Ax} (G : x.Good) : (x.pieces frm).length ≤ 1000 := by
  have hl : x.kind ≤ 3 → x.left.sz ≤ 64 := fun h => (Con.check_zero (G.left h)).2
  have hr : x.kind ≤ 4 ∨ x.kind = 8 → x.right.sz ≤ 64 := fun h => (Con.check_zero (G.right h)).2
  have hc : ∀ (ro : Str) (rs : List Str) (f : Str) (l : List Pc), (Ax.chainP frm ro rs f l).length ≤ l.length + rs.length := by
    intro ro rs
    induction rs with
    | nil => intro f l; simp [Ax.chainP]
    | cons r t ih =>
      intro f l
      simp only [Ax.chainP]
      have h1 := ih (if t = [] then ro else f ++ [46] ++ r) (ins frm l ⟨6, [], [], [], f, r, if t = [] then ro else f ++ [46] ++ r, 0, 0, 0⟩)
      have h2 := bP_ frm l ⟨6, [], [], [], f, r, if t = [] then ro else f ++ [46] ++ r, 0, 0, 0⟩
      simp only [List.length_cons]
      omega
  have L := fun (c : Con) l => Con.leftP_len frm _ c (Nat.le_refl _) l
  have Rr := fun (c : Con) l => Con.rightP_len frm _ c (Nat.le_refl _) l
  have h0 : ([] : List Pc).length = 0 := rfl
  unfold Ax.pieces
  split
  · have := hl (by omega); have := hr (by omega)
    have a1 := L x.left []; have a2 := Rr x.right (x.left.leftP frm []); have a3 := bP_ frm (x.right.rightP frm (x.left.leftP frm [])) ⟨1, x.left.atom, [], x.right.atom, [], [], [], 0, 0, 0⟩
    omega
  · split
    · have := hl (by omega); have := hr (by omega)
      have a1 := L x.left []; have a2 := Rr x.right (x.left.leftP frm []); have a3 := bP_ frm (x.right.rightP frm (x.left.leftP frm [])) ⟨1, x.left.atom, [], x.right.atom, [], [], [], 0, 0, 0⟩
      have a4 := L x.right (ins frm (x.right.rightP frm (x.left.leftP frm [])) ⟨1, x.left.atom, [], x.right.atom, [], [], [], 0, 0, 0⟩)
      have a5 := Rr x.left (x.right.leftP frm (ins frm (x.right.rightP frm (x.left.leftP frm [])) ⟨1, x.left.atom, [], x.right.atom, [], [], [], 0, 0, 0⟩))
      have a6 := bP_ frm (x.left.rightP frm (x.right.leftP frm (ins frm (x.right.rightP frm (x.left.leftP frm [])) ⟨1, x.left.atom, [], x.right.atom, [], [], [], 0, 0, 0⟩))) ⟨1, x.right.atom, [], x.left.atom, [], [], [], 0, 0, 0⟩
      omega
    · split
      · have := hl (by omega); have := hr (by omega)
        have a1 := L x.left []; have a2 := L x.right (x.left.leftP frm []); have a3 := bP_ frm (x.right.leftP frm (x.left.leftP frm [])) ⟨2, x.left.atom, x.right.atom, [33], [], [], [], 0, 0, 0⟩
        omega
      · split
        · have := hr (by omega)
          have a1 := Rr x.right []; have a3 := bP_ frm (x.right.rightP frm []) ⟨4, [42], [], x.right.atom, x.role, [], [], 0, 0, 0⟩
          omega
        · split
          · have := bP_ frm [] ⟨5, [], [], [], x.roles.headD [], [], x.role, 0, 0, 0⟩; omega
          · split
            · rename_i h6
              have := G.chain h6
              have := hc x.role (x.roles.drop 1) (x.roles.headD []) []
              simp only [List.length_drop] at this
              omega
            · split
              · have := bP_ frm [] ⟨7, [], [], [], x.role, [], [], 0, 0, 0⟩; omega
              · split
                · have := hr (by omega)
                  have a1 := Rr x.right []; have a3 := bP_ frm (x.right.rightP frm []) ⟨1, [123] ++ x.a ++ [125], [], x.right.atom, [], [], [], 0, 0, 0⟩
                  omega
                · have := bP_ frm [] ⟨3, [123] ++ x.a ++ [125], [], [123] ++ x.b ++ [125], x.role, [], [], 0, 0, 0⟩; omega
end Go.Vs
namespace Go.Vs
open Go Go.Sx
def bs_ (c : UInt8) : Str → List Str
  | [] => [[]]
  | b :: s => if b = c then [] :: bs_ c s else match bs_ c s with
    | h :: t => (b :: h) :: t
    | [] => [[b]]
def dD_ (c : UInt8) (s : Str) : Nat := s.countP (· == c)
theorem ip_ (c : UInt8) : ∀ s, bs_ c s ≠ []
  | [] => by simp [bs_]
  | b :: s => by
    simp only [bs_]
    split
    · simp
    · split <;> simp
theorem dO_ (c : UInt8) : ∀ s, (bs_ c s).length = dD_ c s + 1
  | [] => by simp [bs_, dD_]
  | b :: s => by
    have ih := dO_ c s
    simp only [bs_]
    by_cases h : b = c
    · simp only [h, if_true, List.length_cons, ih, dD_, List.countP_cons, beq_self_eq_true]
    · simp only [h, if_false]
      cases hs : bs_ c s with
      | nil => exact absurd hs (ip_ c s)
      | cons x t =>
        rw [hs] at ih
        simp only [List.length_cons] at ih ⊢
        simp only [dD_, List.countP_cons, beq_iff_eq, h, if_false, Nat.add_zero] at ih ⊢
        exact ih
theorem ft_ {c : UInt8} : ∀ {s : Str}, ixS c s = none → bs_ c s = [s]
  | [], _ => rfl
  | b :: s, h => by
    simp only [ixS] at h
    split at h
    · cases h
    · rename_i hb
      have hs : ixS c s = none := by simpa using h
      simp only [bs_, hb, if_false, ft_ hs]
theorem gF_ {c : UInt8} : ∀ {s : Str} {k : Nat}, ixS c s = some k → bs_ c s = s.take k :: bs_ c (s.drop (k + 1))
  | [], k, h => by simp [ixS] at h
  | b :: s, k, h => by
    simp only [ixS] at h
    split at h
    · rename_i hb
      simp only [Option.some.injEq] at h
      subst h
      simp [bs_, hb]
    · rename_i hb
      cases hx : ixS c s with
      | none => rw [hx] at h; simp at h
      | some j =>
        rw [hx] at h
        simp only [Option.map_some, Option.some.injEq] at h
        subst h
        simp only [bs_, hb, if_false, gF_ hx, List.take_succ_cons, List.drop_succ_cons]
theorem pL_ {c : UInt8} {s : Str} (h : ixS c s = none) : dD_ c s = 0 := by
  have := dO_ c s
  rw [ft_ h] at this
  simpa using this.symm
theorem kZ_ {c : UInt8} {s : Str} {k : Nat} (h : ixS c s = some k) : dD_ c s = dD_ c (s.drop (k + 1)) + 1 := by
  have h1 := dO_ c s
  rw [gF_ h] at h1
  simp only [List.length_cons, dO_] at h1
  omega
theorem je_ (c : UInt8) (s : Str) : dD_ c s ≤ s.length := List.countP_le_length
def bp_ (s : Str) : Bool :=
  if s = [42] ∨ s = [33] then true
  else if 2 ≤ s.length ∧ s[0]? = some 123 ∧ s[s.length - 1]? = some 125 then bi_ ((s.drop 1).take (s.length - 1 - 1))
  else if 3 ≤ s.length ∧ s[0]? = some 60 ∧ s[s.length - 1]? = some 62 then true
  else bi_ s
def cw_ (s : Str) : Bool := decide ((bs_ 46 s).length ≤ 4) && !((bs_ 46 s).any fun r => !bi_ r)
def ch_ (used : Bool) (s : Str) (q : Str → Bool) : Bool := (used && q s) || (!used && (s == []))
def Pc.valid (p : Pc) : Bool :=
  if p.kind < 1 ∨ 9 < p.kind ∨ p.frm < -1 ∨ 1024 ≤ p.frm then false
  else if (nus p.kind).numbers = true ∧ (p.lo < -1099511627776 ∨ p.hi < p.lo ∨ 1099511627776 < p.hi) then false
  else if (nus p.kind).numbers = false ∧ (p.lo ≠ 0 ∨ p.hi ≠ 0) then false
  else ((((ch_ (nus p.kind).a p.a bp_ && ch_ (nus p.kind).b p.b bp_) && ch_ (nus p.kind).c p.c bp_) && ch_ (nus p.kind).r p.r (if (nus p.kind).numbers then bi_ else cw_)) && ch_ (nus p.kind).s p.s cw_) && ch_ (nus p.kind).t p.t cw_
structure Pc.sm (p : Pc) : Prop where
  a : p.a.length ≤ 17592186044414
  b : p.b.length ≤ 17592186044414
  c : p.c.length ≤ 17592186044414
  r : p.r.length ≤ 17592186044414
  s : p.s.length ≤ 17592186044414
  t : p.t.length ≤ 17592186044414
def Pc.smB (p : Pc) : Bool := Nat.ble p.a.length 17592186044414 && (Nat.ble p.b.length 17592186044414 && (Nat.ble p.c.length 17592186044414 && (Nat.ble p.r.length 17592186044414 && (Nat.ble p.s.length 17592186044414 && Nat.ble p.t.length 17592186044414))))
theorem Pc.sm_all {l : List Pc} (h : l.all Pc.smB = true) : ∀ p ∈ l, p.sm := fun p hp => by
  have := List.all_eq_true.1 h p hp
  simp only [Pc.smB, Bool.and_eq_true, Nat.ble_eq] at this
  exact ⟨this.1, this.2.1, this.2.2.1, this.2.2.2.1, this.2.2.2.2.1, this.2.2.2.2.2⟩
def bD_ (l : List Pc) : Int := if 16384 < l.length then 2 else if l.all Pc.valid then 0 else 1
end Go.Vs
namespace Go.Sx
open Go
section
variable {H r r' d t : Hp} {b : Nat × Obj} {O : Hp}
theorem W_ : H.Perm ([] ++ H) := .refl _
theorem i_ : (b :: r).Perm ([b] ++ r) := .refl _
theorem z_ : (O ++ r).Perm (O ++ r) := .refl _
theorem e_ (h : H.Perm (t ++ r)) : (b :: H).Perm (t ++ (b :: r)) := (h.cons b).trans List.perm_middle.symm
theorem m_ (h : H.Perm (t ++ r)) : (O ++ H).Perm (t ++ (O ++ r)) := (List.Perm.append_left O h).trans (by
  rw [← List.append_assoc, ← List.append_assoc]
  exact List.Perm.append_right r List.perm_append_comm)
theorem l_ (h1 : H.Perm ([b] ++ r)) (h2 : r.Perm (d ++ r')) : H.Perm ((b :: d) ++ r') := h1.trans (h2.cons b)
theorem I_ (h1 : H.Perm (O ++ r)) (h2 : r.Perm (d ++ r')) : H.Perm ((O ++ d) ++ r') := by
  rw [List.append_assoc]
  exact h1.trans (List.Perm.append_left O h2)
theorem ba_ : H.Perm (H ++ []) := by rw [List.append_nil]
end
theorem jo_ : ∀ xs : List (List UInt8), xs.flatMap bg_ = xs.map str
  | [] => rfl
  | x :: xs => by simp only [List.flatMap_cons, jo_ xs, List.map_cons]; rfl
def iz_ (n : Int) : List Value := [.int .i64 n]
theorem fQ_ (n : Int) : (iz_ n).length = 1 := rfl
section
variable {P : Program} {N : Nat} {v0 : Vw} {H0 : Hp} {R : Exit → Act → World → Prop} {K : List Kt} {fr : Fr} {H : Hp} {Γ : List Fct}
theorem dT_ {k : Act → World → Prop} {b : Nat} {cs : List Value} {T : TypeId} {fz : Nat × Nat} {F : Hp} (xs : List Value) (hH : H.Perm ([(b, .cells cs.toArray T fz)] ++ F)) (hx : cs = xs) (h : Ok N v0 H0 k fr F (aS_ (some ⟨b, 0, none⟩) xs :: Γ)) : Ok N v0 H0 k fr H Γ :=
  gl_ (aS_ (some ⟨b, 0, none⟩) xs) hH (fun v h1 h2 _ => .inr ⟨b, 0, cs.toArray, T, fz, rfl, h1, h2, fun j x hj => by rw [Nat.zero_add, hx]; simpa using hj⟩) h
theorem er_ {v : Vw} (h : v.sat H) : v.sat [] := ⟨(fun _ h => by cases h), (by simp), h.lt⟩
variable {ops : Array Oper} {l : List Oper} {d : Nat} {ty : TypeId} {ps : String} {af : Array Edge}
theorem om_ {x y : Operand} {t t' : TypeId} {m n : Int} (hx : Fr.ev fr x = some (.int .i64 m)) (hy : Fr.ev fr y = some (.int .i64 n)) :
    Yld P N fr H Γ (.call ⟨.builtin .min, #[x, y], #[t, t']⟩) ty (.int .i64 (if n < m then n else m)) :=
  fun a v h1 h2 _ _ _ _ => by simp [execOp, resolve, invoke, builtin, Builtin.min_, Builtin.min2, h1.ev hx, h1.ev hy]
theorem rs_ {x y : Operand} {t t' : TypeId} {m n : Int} (hx : Fr.ev fr x = some (.int .i64 m)) (hy : Fr.ev fr y = some (.int .i64 n)) :
    Yld P N fr H Γ (.call ⟨.builtin .max, #[x, y], #[t, t']⟩) ty (.int .i64 (if m < n then n else m)) :=
  fun a v h1 h2 _ _ _ _ => by simp [execOp, resolve, invoke, builtin, Builtin.max_, Builtin.max2, h1.ev hx, h1.ev hy]
theorem ol_ {t t' : TypeId} {x y : Operand} {m n : Int} (hx : Fr.ev fr x = some (.int .i64 m)) (hy : Fr.ev fr y = some (.int .i64 n)) (hn : n ≠ 0) (hw : IntKind.wrap .i64 (m.tdiv n) = m.tdiv n) :
    Yld P N fr H Γ (.binOp .quo t x y t') ty (.int .i64 (m.tdiv n)) :=
  fun a v h1 _ _ _ _ _ => by simp [execOp, h1.ev hx, h1.ev hy, eqGuard, binOp, Op.intDiv, hn, hw]
theorem sa_ (z : Value) (n : Nat) : madeCells #[z] (n * 1) = (List.replicate n z).toArray := by
  unfold madeCells
  apply Array.ext
  · simp
  · intro i h1 h2
    simp at h1 h2 ⊢
    have : i % 1 = 0 := Nat.mod_one i
    simp [this]
theorem pu_ {t e : TypeId} {x y : Operand} {n by' : Nat} {z : Value} (ht : P.underlying t = some (.slice e)) (hi : (P.info? e).map (fun i => (i.zero, i.size, i.bytes)) = some (some z, 1, by')) (hz : z.cells = #[z]) (hx : Fr.ev fr x = some (.int .i64 (n : Int))) (hy : Fr.ev fr y = some (.int .i64 (n : Int)))
    (hb : by' * n ≤ 281474976710656) (h63 : n ≤ 9223372036854775807) (hN : Nat.blt d N = true)
    (hk : ∀ b, Ops P R N v0 H0 ops l K ((d, .slice (some ⟨b, 0, none⟩) n n) :: fr) ((b, .cells (List.replicate n z).toArray e (0, 0)) :: H) Γ) : Ops P R N v0 H0 ops (⟨some d, .makeSlice t x y, ty, ps, af, none⟩ :: l) K fr H Γ := by
  refine gi_ (x := fun b => .slice (some ⟨b, 0, none⟩) n n) hN (fun a v h1 _ _ => ?_) hk
  cases h : P.info? e with
  | none => rw [h] at hi; cases hi
  | some i =>
    rw [h] at hi
    simp only [Option.map_some, Option.some.injEq, Prod.mk.injEq] at hi
    have hb' : (i.bytes : Int) * (n : Int) ≤ 281474976710656 := by
      rw [hi.2.2]
      have h : ((by' * n : Nat) : Int) ≤ 281474976710656 := by omega
      rwa [Int.natCast_mul] at h
    have hr := run_make (P := P) v.w t e i z ht h hi.1 .i64 .i64 (n : Int) (n : Int) (by omega) (Int.le_refl _) hb' (by omega)
    rw [hi.2.1, hz, Int.toNat_natCast, sa_] at hr
    simp only [execOp, h1.ev hx, h1.ev hy]
    simp [hr]
theorem jF_ {t : TypeId} {x y : Operand} {b off : Nat} (i : Nat) {l1 l2 : List Value} {z u : Value} {T : TypeId} (hs : ∀ w, (sizeOf t).run P w = .ok 1 w)
    (hx : Fr.ev fr x = some (.pointer (some ⟨b, off, none⟩))) (hy : Fr.ev fr y = some u) (hi : H[i]? = some (b, .cells (l1 ++ z :: l2).toArray T (0, 0))) (ho : off = l1.length) (hu : u.cells = #[u]) (h1c : u.oneCell' = true)
    (hk : Ops P R N v0 H0 ops l K fr (H.set i (b, .cells (l1 ++ u :: l2).toArray T (0, 0))) Γ) :
    Ops P R N v0 H0 ops (⟨none, .store t x y, ty, ps, af, none⟩ :: l) K fr H Γ := by
  subst ho
  refine Z_ i hs hx hy hi (by rw [hu]; rfl) (by simp) (by rw [hu]; simpa using h1c) ?_
  have e : (((l1 ++ z :: l2).toArray.toList.take l1.length ++ u.cells.toList ++ (l1 ++ z :: l2).toArray.toList.drop (l1.length + 1)).toArray) = (l1 ++ u :: l2).toArray := by
    rw [hu]
    have e2 : (l1 ++ z :: l2).drop (l1.length + 1) = l2 := by
      rw [← List.drop_drop]; simp
    simp [e2]
  rw [e]
  exact hk
theorem mm_ {b cap n : Nat} : sad (some ⟨b, 0, none⟩) cap 0 n = some ⟨b, 0, none⟩ := by unfold sad; split <;> simp [dE_]
end
end Go.Sx
namespace Go.Sx
open Go
section
variable {P : Program} {N : Nat} {v0 : Vw} {H0 : Hp} {R : Exit → Act → World → Prop} {K : List Kt} {fr : Fr} {H : Hp} {Γ : List Fct}
variable {ops : Array Oper} {l : List Oper} {d : Nat} {ty : TypeId} {ps : String} {af : Array Edge}
theorem gN_ {x y : Operand} {t e : TypeId} {sz by' n m c : Nat} {sv : Value} {xs news : List Value} {Hr F : Hp} {ad : Option Addr} (he : Elt P t e sz by') (hrow : bk_ e sz sv n xs Hr)
    (hx : Fr.ev fr x = some sv) (hy : Fr.ev fr y = some (.slice ad m c)) (hz : ad = none → c = 0) (hmc : m ≤ c) (hH : H.Perm (Hr ++ F)) (hl : news.length = m * sz) (hnews : ∀ v, v.sat H → aI_ Γ v → ca_ v ad news) (h1c : ∀ u ∈ news, u.oneCell' = true)
    (h63 : n + m ≤ maxLen) (hb : (n + m) * by' ≤ 140737488355328) (hN : Nat.blt d N = true)
    (hk : ∀ sv' Hr', bk_ e sz sv' (n + m) (xs ++ news) Hr' → Ops P R N v0 H0 ops l K ((d, sv') :: fr) (Hr' ++ F) Γ) :
    Ops P R N v0 H0 ops (⟨some d, .call ⟨.builtin .append, #[x, y], #[t, t]⟩, ty, ps, af, none⟩ :: l) K fr H Γ := by
  cases ad with
  | none =>
    obtain rfl := hz rfl
    obtain rfl : m = 0 := by omega
    obtain rfl : news = [] := List.eq_nil_of_length_eq_zero (by simpa using hl)
    refine dF_ rfl fun a v h1 h2 h3 h4 => ?_
    obtain ⟨i, z, hi, hz, es, eb, ez⟩ := he.info
    have g := h2.perm hH
    have ho := hrow.owns g
    have hr := run_append_owned_none (P := P) (w := v.w) 0 t ty e i sz he.und hi sv n xs ho
    unfold Oper.wp execOp
    simp only [resolve, invoke, builtin, Sem.run_bind, Sem.run_pure, Result.andThen_ok, List.map_toArray, List.map_cons, List.map_nil, h1.ev hx, h1.ev hy, hr]
    have T : v.to H v (Hr ++ F) := (Vw.to.refl v (Hr ++ F)).permL hH.symm
    exact hk sv Hr (by simpa using hrow) _ v (h1.put hN) g (h3.trans T) h4
  | some a0 =>
    refine bd_ he hrow hx hy hH hl (fun v h2 h4 j u hj => ?_) h1c h63 hb hN hk
    rcases hnews v h2 h4 with h | ⟨b, off, arr, T, fz, h1, _, h3, h5⟩
    · rw [h] at hj; simp at hj
    · rw [Option.some.injEq] at h1
      subst h1
      have := h5 j u hj
      rw [dE_]
      simp [World.cell?, h3, this]
theorem kL_ {t e : TypeId} {sz : Nat} (hu : ∀ w, (underlying t).run P w = .ok (.slice e) w) (hs : ∀ w, (sizeOf e).run P w = .ok sz w) (hN : Nat.blt d N = true)
    (hk : ∀ b, Ops P R N v0 H0 ops l K ((d, .slice (some ⟨b, 0, none⟩) 0 0) :: fr) ((b, .cells #[] e (0, 0)) :: H) Γ) : Ops P R N v0 H0 ops (⟨some d, .buildSlice t 0 #[], ty, ps, af, none⟩ :: l) K fr H Γ :=
  gi_ (x := fun b => .slice (some ⟨b, 0, none⟩) 0 0) hN (fun a v h1 h2 h4 => by
    simp only [execOp, Instr.buildSlice, Sem.run_bind, hu, Result.andThen_ok, hs, List.map_toArray]
    rw [if_neg (by omega), if_pos (by omega), Nat.zero_mul, show Array.range 0 = #[] by simp]
    simp only [Sem.run_bind, Sem.run_pure, Result.andThen_ok, List.map_nil, List.map_toArray, List.toList_toArray, Instr.fill]
    rfl) hk
theorem dS_ {k : Act → World → Prop} {e : TypeId} {sz n : Nat} {sv : Value} {xs : List Value} {Hr F : Hp} (hr : bk_ e sz sv n xs Hr) (hH : H.Perm (Hr ++ F))
    (h : ∀ ad cap, sv = .slice ad n cap → n ≤ cap → cap ≤ maxLen → (ad = none → cap = 0) → Ok N v0 H0 k fr F (aS_ ad xs :: Γ)) : Ok N v0 H0 k fr H Γ := by
  refine gk_ hr hH fun ad cap e1 e2 e3 => h ad cap e1 e2 e3 fun e4 => ?_
  rcases hr.2 with ⟨h1, _, _⟩ | ⟨g, c, cur, h1, _⟩
  · rw [h1] at e1
    simp only [Value.slice.injEq] at e1
    exact e1.2.2.symm
  · rw [h1, e4] at e1
    simp at e1
end
end Go.Sx
namespace Go.Sx
open Go
section
variable {P : Program} {N : Nat} {fr : Fr} {H : Hp} {Γ : List Fct} {ty : TypeId} {e : TypeId} {sz n : Nat} {sv : Value} {xs : List Value} {Hr F : Hp}
theorem hd_ {O : Hp} : List.Perm (O ++ []) O := by rw [List.append_nil]
theorem be_ {O Q : Hp} : List.Perm (Q ++ O) (O ++ Q) := List.perm_append_comm
theorem ai_ {O : Hp} {b : Nat × Obj} : List.Perm (b :: O) (O ++ [b]) := List.perm_append_comm (l₁ := [b])
theorem ox_ {H : Hp} : List.Perm ([] ++ H) H := .refl _
def svB : Value → Nat
  | .slice (some a) _ _ => a.block
  | _ => 0
theorem nt_ {x : Operand} {t e' : TypeId} (hrow : bk_ e sz sv n xs Hr) (hu : ∀ w, (underlying t).run P w = .ok (.slice e') w) (hx : Fr.ev fr x = some sv) : Yld P N fr H Γ (.call ⟨.builtin .len, #[x], #[t]⟩) ty (.int .i64 (n : Int)) := by
  rcases hrow.2 with ⟨rfl, rfl, _⟩ | ⟨g, cap, cur, rfl, _⟩
  · exact ah_ hu hx
  · exact ah_ hu hx
theorem oQ_ {x y : Operand} {t e' : TypeId} {k : IntKind} {i : Int} (hrow : bk_ e sz sv n xs Hr) (hu : ∀ w, (underlying t).run P w = .ok (.slice e') w) (hs : ∀ w, (sizeOf e').run P w = .ok sz w) (hx : Fr.ev fr x = some sv) (hy : Fr.ev fr y = some (.int k i)) (h0 : 0 ≤ i) (hl : i < n) :
    Yld P N fr H Γ (.indexAddr t x y) ty (.pointer (some ⟨svB sv, i.toNat * sz, none⟩)) := by
  rcases hrow.2 with ⟨_, h2, _⟩ | ⟨g, cap, cur, rfl, _⟩
  · omega
  · have := fF_ (P := P) (N := N) (H := H) (Γ := Γ) (ty := ty) hu hs hx hy h0 hl
    rw [Nat.zero_add] at this
    exact this
theorem oP_ {x : Operand} {t : TypeId} {k : Nat} {us : List Value} (hrow : bk_ e sz sv n xs Hr) (hH : H.Perm (Hr ++ F)) (ha : ∀ w, (isAgg t).run P w = .ok true w) (hs : ∀ w, (sizeOf t).run P w = .ok sz w) (hx : Fr.ev fr x = some (.pointer (some ⟨svB sv, k, none⟩)))
    (hn : us.length = sz) (hp : 0 < sz) (hu : ∀ j y, us[j]? = some y → xs[k + j]? = some y) : Yld P N fr H Γ (.load t x) ty (.agg us.toArray) := by
  rcases hrow.2 with ⟨_, h2, _⟩ | ⟨g, cap, cur, rfl, rfl, h3, h4, h5, h6⟩
  · subst h2
    have h1 := hrow.1
    have : xs = [] := List.eq_nil_of_length_eq_zero (by simpa using h1)
    subst this
    have := hu 0 us[0] (List.getElem?_eq_getElem (by omega))
    simp at this
  · refine gY_ hx fun v h2 _ => de_ ha hs hn fun j y hj => ?_
    have hb := ((h2.perm hH).own _ (List.mem_append_left _ List.mem_cons_self)).1
    have hc := hu j y hj
    rw [← h6, List.getElem?_take] at hc
    split at hc
    · have hc' : cur[k + j]? = some y := by simpa using hc
      simp only [svB, World.cell?, hb, Option.isSome_none, Bool.false_eq_true, if_false]
      exact hc'
    · cases hc
end
end Go.Sx
namespace Go.Sx
open Go
section
variable {P : Program} {N : Nat} {fr : Fr} {H : Hp} {Γ : List Fct} {ty : TypeId} {e : TypeId} {sz n : Nat} {sv : Value} {xs : List Value} {Hr F : Hp}
theorem hP_ (h : bk_ e sz sv n xs Hr) : sv.cells = #[sv] ∧ sv.oneCell' = true := by
  rcases h.2 with ⟨rfl, _⟩ | ⟨g, cap, cur, rfl, _⟩ <;> exact ⟨rfl, rfl⟩
theorem gh_ {v0 : Vw} {H0 : Hp} {R : Exit → Act → World → Prop} {K : List Kt} {ops : Array Oper} {l : List Oper} {ps : String} {af : Array Edge} {t : TypeId} {x y : Operand} {b off : Nat} (i : Nat) {cur : Array Value} {T : TypeId} (hrow : bk_ e sz sv n xs Hr) (hs : ∀ w, (sizeOf t).run P w = .ok 1 w)
    (hx : Fr.ev fr x = some (.pointer (some ⟨b, off, none⟩))) (hy : Fr.ev fr y = some sv) (hi : H[i]? = some (b, .cells cur T (0, 0))) (hf : Nat.ble (off + 1) cur.size = true)
    (hk : Ops P R N v0 H0 ops l K fr (H.set i (b, .cells (cur.toList.take off ++ [sv] ++ cur.toList.drop (off + 1)).toArray T (0, 0))) Γ) : Ops P R N v0 H0 ops (⟨none, .store t x y, ty, ps, af, none⟩ :: l) K fr H Γ :=
  Z_ i hs hx hy hi (by rw [(hP_ hrow).1]; rfl) hf (by rw [(hP_ hrow).1]; simp [(hP_ hrow).2]) (by rw [(hP_ hrow).1]; exact hk)
theorem jh_ {x y : Operand} {t t' : TypeId} {m k : Int} (hx : Fr.ev fr x = some (.int .i64 m)) (hy : Fr.ev fr y = some (.int .i64 k)) : Yld P N fr H Γ (.call ⟨.builtin .max, #[x, y], #[t, t']⟩) ty (.int .i64 (max m k)) := by
  have e : (if m < k then k else m) = max m k := by split <;> omega
  exact e ▸ rs_ hx hy
theorem hH_ {x y : Operand} {t t' : TypeId} {m k : Int} (hx : Fr.ev fr x = some (.int .i64 m)) (hy : Fr.ev fr y = some (.int .i64 k)) : Yld P N fr H Γ (.call ⟨.builtin .min, #[x, y], #[t, t']⟩) ty (.int .i64 (min m k)) := by
  have e : (if k < m then k else m) = min m k := by split <;> omega
  exact e ▸ om_ hx hy
theorem dx_ {b : Nat} {cs : List Value} {T : TypeId} {fz : Nat × Nat} (hp : H.Perm ([(b, .cells cs.toArray T fz)] ++ F)) : ∀ v : Vw, v.sat H → aI_ Γ v → ∀ j u, cs[j]? = some u → v.w.cell? ((⟨b, 0, none⟩ : Addr).add j) = some u := by
  intro v h1 h2 j u hj
  exact cQ_ (Γ := Γ) 0 rfl v (h1.perm hp) h2 j u hj
theorem bV_ {α : Type} {f : α → List Value} (hf : ∀ x, (f x).all Value.oneCell' = true) {l : List α} {u : Value} (h : u ∈ l.flatMap f) : u.oneCell' = true := by
  obtain ⟨y, _, hy⟩ := List.mem_flatMap.1 h
  exact List.all_eq_true.1 (hf y) u hy
end
end Go.Sx
namespace Go.Sx
open Go
section
variable {P : Program} {N : Nat} {v0 : Vw} {H0 : Hp} {R : Exit → Act → World → Prop} {K : List Kt} {fr : Fr} {H F : Hp} {Γ : List Fct} {ops : Array Oper} {l : List Oper} {ty : TypeId} {ps : String} {af : Array Edge} {e : TypeId} {sz n : Nat} {sv : Value} {xs : List Value} {Hr : Hp}
theorem lc_ {t t' : TypeId} {x : Operand} {k k' : IntKind} {m r : Int} {u : TypeDesc} (hs : P.underlying t = some u) (hd : P.underlying t' = some (.int k')) (hx : Fr.ev fr x = some (.int k m)) (hw : IntKind.wrap k' m = r) : Yld P N fr H Γ (.convert t t' x) ty (.int k' r) :=
  fun a v h1 _ _ _ _ _ => by subst hw; simp [execOp, h1.ev hx, convert, run_underlying hs, run_underlying hd, Conv.intToInt]
theorem pS_ {t t' : TypeId} {x y : Operand} {m n : Int} (hx : Fr.ev fr x = some (.int .u64 m)) (hy : Fr.ev fr y = some (.int .u64 n)) (hn : n ≠ 0) (hw : IntKind.wrap .u64 (m.tmod n) = m.tmod n) :
    Yld P N fr H Γ (.binOp .rem t x y t') ty (.int .u64 (m.tmod n)) :=
  fun a v h1 _ _ _ _ _ => by simp [execOp, h1.ev hx, h1.ev hy, eqGuard, binOp, Op.intDiv, hn, hw]
theorem sC_ {r : Int} (h1 : 0 ≤ r) (h2 : r ≤ 18446744073709551615) : IntKind.wrap .u64 r = r := by
  simp [IntKind.wrap, IntKind.signed, IntKind.bits]
  omega
end
end Go.Sx
namespace Go.Sx
open Go
section
variable {P : Program} {N : Nat} {v0 : Vw} {H0 : Hp} {R : Exit → Act → World → Prop} {K : List Kt} {fr : Fr} {H F : Hp} {Γ : List Fct} {ops : Array Oper} {l : List Oper} {d : Nat} {ty : TypeId} {ps : String} {af : Array Edge} {e : TypeId} {sz n : Nat} {sv : Value} {xs : List Value} {Hr : Hp}
inductive ORow (e : TypeId) (sz : Nat) : Value → Nat → List Value → Hp → Prop
  | row {sv : Value} {n : Nat} {xs : List Value} {Hr : Hp} (h : bk_ e sz sv n xs Hr) : ORow e sz sv n xs Hr
  | cut {g k n cap : Nat} {pre xs : List Value} {Hr : Hp} (hp : pre.length = k * sz) (h : bk_ e sz (.slice (some ⟨g, 0, none⟩) (k + n) (k + cap)) (k + n) (pre ++ xs) Hr) : ORow e sz (.slice (some ⟨g, k * sz, none⟩) n cap) n xs Hr
  | out {g k : Nat} {Hr : Hp} : ORow e sz (.slice (some ⟨g, k * sz, none⟩) 0 0) 0 [] Hr
theorem ORow.len (h : ORow e sz sv n xs Hr) : xs.length = n * sz := by
  cases h with
  | row h => exact h.1
  | cut hp h => have := h.1; rw [List.length_append, hp, Nat.add_mul] at this; omega
  | out => simp
theorem ORow.form (h : ORow e sz sv n xs Hr) : ∃ ad cap, sv = .slice ad n cap ∧ n ≤ cap ∧ (ad = none → cap = 0) := by
  cases h with
  | row h =>
    rcases h.2 with ⟨rfl, rfl, _⟩ | ⟨g, cap, cur, rfl, _, h3, _⟩
    · exact ⟨_, _, rfl, Nat.le_refl _, fun _ => rfl⟩
    · exact ⟨_, _, rfl, h3, fun q => by cases q⟩
  | cut hp h =>
    rcases h.2 with ⟨h1, _⟩ | ⟨g, cap, cur, h1, _, h3, _⟩
    · cases h1
    · simp only [Value.slice.injEq] at h1; obtain ⟨_, _, rfl⟩ := h1; exact ⟨_, _, rfl, by omega, fun q => by cases q⟩
  | out => exact ⟨_, _, rfl, Nat.le_refl _, fun q => by cases q⟩
theorem Vw.sat.subB {v : Vw} (h : v.sat (Hr ++ F)) : v.sat F :=
  ⟨fun x hx => h.own x (List.mem_append_right _ hx), by have := h.nodup; rw [List.map_append, List.nodup_append] at this; exact this.2.1, h.lt⟩
end
end Go.Sx
namespace Go.Proofs
open Go.Shelf
def Tryz.lays156_ren : Go.Shelf.Ren := ⟨fun | 156 => 250 | 165 => 255 | 166 => 256 | 169 => 257 | 240 => 259 | 241 => 260 | 276 => 262 | 277 => 263 | n => n, fun | 31 => 25 | 9 => 9 | 3 => 3 | 4 => 4 | 0 => 0 | 20 => 20 | 72 => 258 | 76 => 262 | 70 => 256 | 37 => 242 | 75 => 261 | 127 => 265 | 164 => 267 | 5 => 5 | 80 => 264 | n => n, fun | n => n⟩
theorem Tryz.lays156 : Go.Proofs.Lays.n156 Tryz.prog Tryz.lays156_ren := {
 mixed := by kernel_rfl
 f156 := Tryz.func250.trans (congrArg some (by kernel_rfl))
 f165 := Tryz.func255.trans (congrArg some (by kernel_rfl))
 f166 := Tryz.func256.trans (congrArg some (by kernel_rfl))
 f169 := Tryz.func257.trans (congrArg some (by kernel_rfl))
 f240 := Tryz.func259.trans (congrArg some (by kernel_rfl))
 f241 := Tryz.func260.trans (congrArg some (by kernel_rfl))
 f276 := Tryz.func262.trans (congrArg some (by kernel_rfl))
 f277 := Tryz.func263.trans (congrArg some (by kernel_rfl))
 t0 := Tryz.underlying0
 a0 := Tryz.isAgg0
 z0 := Tryz.sizeOf0
 v0 := Tryz.zeroValue0
 t3 := Tryz.underlying3
 a3 := Tryz.isAgg3
 z3 := Tryz.sizeOf3
 v3 := Tryz.zeroValue3
 t4 := Tryz.underlying4
 a4 := Tryz.isAgg4
 z4 := Tryz.sizeOf4
 v4 := Tryz.zeroValue4
 t9 := Tryz.underlying9
 a9 := Tryz.isAgg9
 z9 := Tryz.sizeOf9
 v9 := Tryz.zeroValue9
 t20 := Tryz.underlying20
 a20 := Tryz.isAgg20
 z20 := Tryz.sizeOf20
 v20 := Tryz.zeroValue20
 t31 := Tryz.underlying25
 a31 := Tryz.isAgg25
 z31 := Tryz.sizeOf25
 v31 := Tryz.zeroValue25
 t37 := Tryz.underlying242
 a37 := Tryz.isAgg242
 z37 := Tryz.sizeOf242
 v37 := Tryz.zeroValue242
 t70 := Tryz.underlying256
 a70 := Tryz.isAgg256
 z70 := Tryz.sizeOf256
 v70 := Tryz.zeroValue256
 t72 := Tryz.underlying258
 a72 := Tryz.isAgg258
 z72 := Tryz.sizeOf258
 v72 := Tryz.zeroValue258
 t75 := Tryz.underlying261
 a75 := Tryz.isAgg261
 z75 := Tryz.sizeOf261
 v75 := Tryz.zeroValue261
 t76 := Tryz.underlying262
 a76 := Tryz.isAgg262
 z76 := Tryz.sizeOf262
 v76 := Tryz.zeroValue262
 t127 := Tryz.underlying265
 a127 := Tryz.isAgg265
 z127 := Tryz.sizeOf265
 v127 := Tryz.zeroValue265
 t164 := Tryz.underlying267
 a164 := Tryz.isAgg267
 z164 := Tryz.sizeOf267
 v164 := Tryz.zeroValue267 }
theorem Tryz.Builder_Extra_156 : Builder.Extra Tryz.prog Tryz.lays156_ren := {
  sizeBuilder := by kernel_rfl
  liesBuilder := by kernel_rfl
  t5 := Tryz.underlying5
  a5 := Tryz.isAgg5
  z5 := Tryz.sizeOf5
  v5 := Tryz.zeroValue5
  infoByte := by kernel_rfl
  cellsByte := by kernel_rfl
  sizeByte := by kernel_rfl
  neB5 := by decide }
open Go.RowKit in
open Go.RowKit in
theorem Tryz.strings_Join (bk o c : Nat) (xs : List ByteArray) (sep : ByteArray) (w : World) (hcells : ∀ (j : Nat) x, xs[j]? = some x → w.cell? ⟨bk, o + j, none⟩ = some (.string x)) (hbk : bk < w.heap.size) (hN : xs.length ≤ 140737488355328) (hcap : xs.length ≤ c) (hlen : (Lib.join (xs.map (·.data.toList)) sep.data.toList).length ≤ 140737488355328) :
    Calls Tryz.prog 250 #[.slice (some ⟨bk, o, none⟩) xs.length c, .string sep] w fun e w' => e = .returned (.string ⟨(Lib.join (xs.map (·.data.toList)) sep.data.toList).toArray⟩) ∧ Below w.heap.size w w' := Any.strings_Join Tryz.lays156 Tryz.Builder_Extra_156 bk o c xs sep w hcells hbk hN hcap hlen
def Tryz.lays122_ren : Go.Shelf.Ren := ⟨fun | 122 => 115 | 215 => 154 | n => n, fun | 3 => 3 | 4 => 4 | n => n, fun | n => n⟩
theorem Tryz.lays122 : Go.Proofs.Lays.n122 Tryz.prog Tryz.lays122_ren := {
  mixed := by kernel_rfl
  f122 := Tryz.func115.trans (congrArg some (by kernel_rfl))
  f215 := Tryz.func154.trans (congrArg some (by kernel_rfl))
  t3 := Tryz.underlying3
  a3 := Tryz.isAgg3
  z3 := Tryz.sizeOf3
  v3 := Tryz.zeroValue3
  t4 := Tryz.underlying4
  a4 := Tryz.isAgg4
  z4 := Tryz.sizeOf4
  v4 := Tryz.zeroValue4 }
open Go.RowKit in
theorem Tryz.cmp_Compare_int (x y : Int) (w : World) :
    Calls Tryz.prog 115 #[.int .i64 x, .int .i64 y] w fun e w' => e = .returned (.int .i64 (Lib.compareInt x y)) ∧ w' = w := Any.cmp_Compare_int Tryz.lays122 x y w
def Tryz.laysM171_ren : Go.Shelf.Ren := ⟨fun | 171 => 252 | 243 => 258 | 246 => 261 | 283 => 264 | 284 => 265 | 285 => 266 | 286 => 267 | 129 => 153 | 317 => 268 | 318 => 269 | 319 => 270 | 320 => 271 | 337 => 272 | 338 => 273 | n => n, fun | 3 => 3 | 9 => 9 | 2 => 2 | 4 => 4 | 171 => 270 | 0 => 0 | 53 => 186 | 37 => 242 | 5 => 5 | 173 => 272 | 212 => 275 | 51 => 65 | 20 => 20 | 213 => 276 | 46 => 45 | 232 => 277 | 233 => 278 | n => n, fun | 17 => 6 | 18 => 7 | 19 => 8 | n => n⟩
theorem Tryz.laysM171 : Go.Proofs.LaysM.n171 Tryz.prog Tryz.laysM171_ren := {
 mixed := by kernel_rfl
 f129 := Tryz.func153.trans (congrArg some (by kernel_rfl))
 f171 := Tryz.func252.trans (congrArg some (by kernel_rfl))
 f243 := Tryz.func258.trans (congrArg some (by kernel_rfl))
 f246 := Tryz.func261.trans (congrArg some (by kernel_rfl))
 f283 := Tryz.func264.trans (congrArg some (by kernel_rfl))
 f284 := Tryz.func265.trans (congrArg some (by kernel_rfl))
 f285 := Tryz.func266.trans (congrArg some (by kernel_rfl))
 f286 := Tryz.func267.trans (congrArg some (by kernel_rfl))
 f317 := Tryz.func268.trans (congrArg some (by kernel_rfl))
 f318 := Tryz.func269.trans (congrArg some (by kernel_rfl))
 f319 := Tryz.func270.trans (congrArg some (by kernel_rfl))
 f320 := Tryz.func271.trans (congrArg some (by kernel_rfl))
 f337 := Tryz.func272.trans (congrArg some (by kernel_rfl))
 f338 := Tryz.func273.trans (congrArg some (by kernel_rfl))
 t0 := Tryz.underlying0
 a0 := Tryz.isAgg0
 z0 := Tryz.sizeOf0
 v0 := Tryz.zeroValue0
 t2 := Tryz.underlying2
 a2 := Tryz.isAgg2
 z2 := Tryz.sizeOf2
 v2 := Tryz.zeroValue2
 t3 := Tryz.underlying3
 a3 := Tryz.isAgg3
 z3 := Tryz.sizeOf3
 v3 := Tryz.zeroValue3
 t4 := Tryz.underlying4
 a4 := Tryz.isAgg4
 z4 := Tryz.sizeOf4
 v4 := Tryz.zeroValue4
 t5 := Tryz.underlying5
 a5 := Tryz.isAgg5
 z5 := Tryz.sizeOf5
 v5 := Tryz.zeroValue5
 t9 := Tryz.underlying9
 a9 := Tryz.isAgg9
 z9 := Tryz.sizeOf9
 v9 := Tryz.zeroValue9
 t20 := Tryz.underlying20
 a20 := Tryz.isAgg20
 z20 := Tryz.sizeOf20
 v20 := Tryz.zeroValue20
 t37 := Tryz.underlying242
 a37 := Tryz.isAgg242
 z37 := Tryz.sizeOf242
 v37 := Tryz.zeroValue242
 t46 := Tryz.underlying45
 a46 := Tryz.isAgg45
 z46 := Tryz.sizeOf45
 v46 := Tryz.zeroValue45
 t51 := Tryz.underlying65
 a51 := Tryz.isAgg65
 z51 := Tryz.sizeOf65
 v51 := Tryz.zeroValue65
 t53 := Tryz.underlying186
 a53 := Tryz.isAgg186
 z53 := Tryz.sizeOf186
 v53 := Tryz.zeroValue186
 t171 := Tryz.underlying270
 a171 := Tryz.isAgg270
 z171 := Tryz.sizeOf270
 v171 := Tryz.zeroValue270
 t173 := Tryz.underlying272
 a173 := Tryz.isAgg272
 z173 := Tryz.sizeOf272
 v173 := Tryz.zeroValue272
 t212 := Tryz.underlying275
 a212 := Tryz.isAgg275
 z212 := Tryz.sizeOf275
 v212 := Tryz.zeroValue275
 t213 := Tryz.underlying276
 a213 := Tryz.isAgg276
 z213 := Tryz.sizeOf276
 t232 := Tryz.underlying277
 a232 := Tryz.isAgg277
 z232 := Tryz.sizeOf277
 v232 := Tryz.zeroValue277
 t233 := Tryz.underlying278
 a233 := Tryz.isAgg278
 z233 := Tryz.sizeOf278
 v233 := Tryz.zeroValue278
 g17 := by kernel_rfl
 g18 := by kernel_rfl
 g19 := by kernel_rfl
 i0 := by kernel_rfl
 i2 := by kernel_rfl
 i3 := by kernel_rfl
 i4 := by kernel_rfl
 i5 := by kernel_rfl
 i9 := by kernel_rfl
 i20 := by kernel_rfl
 i37 := by kernel_rfl
 i46 := by kernel_rfl
 i51 := by kernel_rfl
 i53 := by kernel_rfl
 i171 := by kernel_rfl
 i173 := by kernel_rfl
 i212 := by kernel_rfl
 i232 := by kernel_rfl
 i233 := by kernel_rfl
 m17 := by kernel_rfl
 m18 := by kernel_rfl
 m19 := by kernel_rfl }
open Go.RowKit Go.Sort Go.Lib in
theorem Tryz.strconv_Itoa (n : Int) (h0 : -9223372036854775808 ≤ n) (h1 : n ≤ 9223372036854775807) (w : World) (htab : Lib.TabIs Tryz.prog w "internal/strconv.uint64pow10" .u64 Lib.pow10Tab) :
    Calls Tryz.prog 252 #[.int .i64 n] w fun e w' => e = .returned (.string ⟨(Lib.itoa n).toArray⟩) ∧ ∃ k os, w' = grow (w.drewN k) os := Any.strconv_Itoa Tryz.laysM171 n h0 h1 w htab
def Tryz.lays219_ren : Go.Shelf.Ren := ⟨fun | 219 => 225 | 217 => 245 | 225 => 246 | 224 => 247 | 267 => 248 | 266 => 253 | 314 => 254 | n => n, fun | 9 => 9 | 3 => 3 | 4 => 4 | 5 => 5 | 46 => 45 | 146 => 254 | 51 => 65 | n => n, fun | 1 => 2 | n => n⟩
theorem Tryz.lays219 : Go.Proofs.Lays.n219 Tryz.prog Tryz.lays219_ren := {
  mixed := by kernel_rfl
  f217 := Tryz.func245.trans (congrArg some (by kernel_rfl))
  f219 := Tryz.func225.trans (congrArg some (by kernel_rfl))
  f224 := Tryz.func247.trans (congrArg some (by kernel_rfl))
  f225 := Tryz.func246.trans (congrArg some (by kernel_rfl))
  f266 := Tryz.func253.trans (congrArg some (by kernel_rfl))
  f267 := Tryz.func248.trans (congrArg some (by kernel_rfl))
  f314 := Tryz.func254.trans (congrArg some (by kernel_rfl))
  t3 := Tryz.underlying3
  a3 := Tryz.isAgg3
  z3 := Tryz.sizeOf3
  v3 := Tryz.zeroValue3
  t4 := Tryz.underlying4
  a4 := Tryz.isAgg4
  z4 := Tryz.sizeOf4
  v4 := Tryz.zeroValue4
  t5 := Tryz.underlying5
  a5 := Tryz.isAgg5
  z5 := Tryz.sizeOf5
  v5 := Tryz.zeroValue5
  t9 := Tryz.underlying9
  a9 := Tryz.isAgg9
  z9 := Tryz.sizeOf9
  v9 := Tryz.zeroValue9
  t46 := Tryz.underlying45
  a46 := Tryz.isAgg45
  z46 := Tryz.sizeOf45
  v46 := Tryz.zeroValue45
  t51 := Tryz.underlying65
  a51 := Tryz.isAgg65
  z51 := Tryz.sizeOf65
  v51 := Tryz.zeroValue65
  t146 := Tryz.underlying254
  a146 := Tryz.isAgg254
  z146 := Tryz.sizeOf254
  v146 := Tryz.zeroValue254
  g1 := by kernel_rfl }
open Go.RowKit Go.Lib in
theorem Tryz.stringslite_Index_one (s : ByteArray) (c : UInt8) (w : World) :
    Calls Tryz.prog 225 #[.string s, .string ⟨#[c]⟩] w fun e w' => e = .returned (.int .i64 (Lib.indexByte s.data.toList c)) ∧ w' = w := Any.stringslite_Index_one Tryz.lays219 s c w
def Tryz.lays143_ren : Go.Shelf.Ren := ⟨fun | 143 => 212 | 219 => 225 | 217 => 245 | 225 => 246 | 224 => 247 | 267 => 248 | 266 => 253 | 314 => 254 | n => n, fun | 9 => 9 | 3 => 3 | 4 => 4 | 5 => 5 | 46 => 45 | 146 => 254 | 51 => 65 | n => n, fun | 1 => 2 | n => n⟩
theorem Tryz.lays143 : Go.Proofs.Lays.n143 Tryz.prog Tryz.lays143_ren := {
  mixed := by kernel_rfl
  f143 := Tryz.func212.trans (congrArg some (by kernel_rfl))
  f217 := Tryz.func245.trans (congrArg some (by kernel_rfl))
  f219 := Tryz.func225.trans (congrArg some (by kernel_rfl))
  f224 := Tryz.func247.trans (congrArg some (by kernel_rfl))
  f225 := Tryz.func246.trans (congrArg some (by kernel_rfl))
  f266 := Tryz.func253.trans (congrArg some (by kernel_rfl))
  f267 := Tryz.func248.trans (congrArg some (by kernel_rfl))
  f314 := Tryz.func254.trans (congrArg some (by kernel_rfl))
  t3 := Tryz.underlying3
  a3 := Tryz.isAgg3
  z3 := Tryz.sizeOf3
  v3 := Tryz.zeroValue3
  t4 := Tryz.underlying4
  a4 := Tryz.isAgg4
  z4 := Tryz.sizeOf4
  v4 := Tryz.zeroValue4
  t5 := Tryz.underlying5
  a5 := Tryz.isAgg5
  z5 := Tryz.sizeOf5
  v5 := Tryz.zeroValue5
  t9 := Tryz.underlying9
  a9 := Tryz.isAgg9
  z9 := Tryz.sizeOf9
  v9 := Tryz.zeroValue9
  t46 := Tryz.underlying45
  a46 := Tryz.isAgg45
  z46 := Tryz.sizeOf45
  v46 := Tryz.zeroValue45
  t51 := Tryz.underlying65
  a51 := Tryz.isAgg65
  z51 := Tryz.sizeOf65
  v51 := Tryz.zeroValue65
  t146 := Tryz.underlying254
  a146 := Tryz.isAgg254
  z146 := Tryz.sizeOf254
  v146 := Tryz.zeroValue254
  g1 := by kernel_rfl }
open Go.RowKit Go.Lib in
theorem Tryz.strings_Index_one (s : ByteArray) (c : UInt8) (w : World) :
    Calls Tryz.prog 212 #[.string s, .string ⟨#[c]⟩] w fun e w' => e = .returned (.int .i64 (Lib.indexByte s.data.toList c)) ∧ w' = w := Any.strings_Index_one Tryz.lays143 s c w
def Tryz.lays138_ren : Go.Shelf.Ren := ⟨fun | 138 => 211 | 195 => 222 | 218 => 224 | 143 => 212 | 219 => 225 | 217 => 245 | 225 => 246 | 224 => 247 | 267 => 248 | 266 => 253 | 314 => 254 | n => n, fun | 9 => 9 | 3 => 3 | 4 => 4 | 5 => 5 | 0 => 0 | 46 => 45 | 146 => 254 | 51 => 65 | n => n, fun | 1 => 2 | n => n⟩
theorem Tryz.lays138 : Go.Proofs.Lays.n138 Tryz.prog Tryz.lays138_ren := {
 mixed := by kernel_rfl
 f138 := Tryz.func211.trans (congrArg some (by kernel_rfl))
 f143 := Tryz.func212.trans (congrArg some (by kernel_rfl))
 f195 := Tryz.func222.trans (congrArg some (by kernel_rfl))
 f217 := Tryz.func245.trans (congrArg some (by kernel_rfl))
 f218 := Tryz.func224.trans (congrArg some (by kernel_rfl))
 f219 := Tryz.func225.trans (congrArg some (by kernel_rfl))
 f224 := Tryz.func247.trans (congrArg some (by kernel_rfl))
 f225 := Tryz.func246.trans (congrArg some (by kernel_rfl))
 f266 := Tryz.func253.trans (congrArg some (by kernel_rfl))
 f267 := Tryz.func248.trans (congrArg some (by kernel_rfl))
 f314 := Tryz.func254.trans (congrArg some (by kernel_rfl))
 t0 := Tryz.underlying0
 a0 := Tryz.isAgg0
 z0 := Tryz.sizeOf0
 v0 := Tryz.zeroValue0
 t3 := Tryz.underlying3
 a3 := Tryz.isAgg3
 z3 := Tryz.sizeOf3
 v3 := Tryz.zeroValue3
 t4 := Tryz.underlying4
 a4 := Tryz.isAgg4
 z4 := Tryz.sizeOf4
 v4 := Tryz.zeroValue4
 t5 := Tryz.underlying5
 a5 := Tryz.isAgg5
 z5 := Tryz.sizeOf5
 v5 := Tryz.zeroValue5
 t9 := Tryz.underlying9
 a9 := Tryz.isAgg9
 z9 := Tryz.sizeOf9
 v9 := Tryz.zeroValue9
 t46 := Tryz.underlying45
 a46 := Tryz.isAgg45
 z46 := Tryz.sizeOf45
 v46 := Tryz.zeroValue45
 t51 := Tryz.underlying65
 a51 := Tryz.isAgg65
 z51 := Tryz.sizeOf65
 v51 := Tryz.zeroValue65
 t146 := Tryz.underlying254
 a146 := Tryz.isAgg254
 z146 := Tryz.sizeOf254
 v146 := Tryz.zeroValue254
 g1 := by kernel_rfl }
open Go.RowKit Go.Lib in
theorem Tryz.strings_Count_one (s : ByteArray) (c : UInt8) (w : World) :
    Calls Tryz.prog 211 #[.string s, .string ⟨#[c]⟩] w fun e w' => e = .returned (.int .i64 (Lib.countByte s.data.toList c)) ∧ w' = w := Any.strings_Count_one Tryz.lays138 s c w
def Tryz.lays190_ren : Go.Shelf.Ren := ⟨fun | 190 => 87 | 125 => 113 | 258 => 131 | 128 => 152 | 129 => 153 | 302 => 165 | 303 => 166 | 304 => 167 | 305 => 168 | 306 => 169 | 307 => 170 | 308 => 171 | 309 => 172 | 310 => 173 | 333 => 194 | 329 => 186 | 330 => 187 | 334 => 195 | 335 => 196 | 336 => 197 | 344 => 214 | n => n, fun | 31 => 25 | 9 => 9 | 3 => 3 | 46 => 45 | 0 => 0 | 51 => 65 | 53 => 186 | 4 => 4 | 183 => 178 | 182 => 177 | 131 => 182 | 5 => 5 | 218 => 205 | 222 => 199 | 228 => 227 | 229 => 228 | n => n, fun | n => n⟩
theorem Tryz.lays190 : Go.Proofs.Lays.n190 Tryz.prog Tryz.lays190_ren := {
 mixed := by kernel_rfl
 f125 := Tryz.func113.trans (congrArg some (by kernel_rfl))
 f128 := Tryz.func152.trans (congrArg some (by kernel_rfl))
 f129 := Tryz.func153.trans (congrArg some (by kernel_rfl))
 f190 := Tryz.func87.trans (congrArg some (by kernel_rfl))
 f258 := Tryz.func131.trans (congrArg some (by kernel_rfl))
 f302 := Tryz.func165.trans (congrArg some (by kernel_rfl))
 f303 := Tryz.func166.trans (congrArg some (by kernel_rfl))
 f304 := Tryz.func167.trans (congrArg some (by kernel_rfl))
 f305 := Tryz.func168.trans (congrArg some (by kernel_rfl))
 f306 := Tryz.func169.trans (congrArg some (by kernel_rfl))
 f307 := Tryz.func170.trans (congrArg some (by kernel_rfl))
 f308 := Tryz.func171.trans (congrArg some (by kernel_rfl))
 f309 := Tryz.func172.trans (congrArg some (by kernel_rfl))
 f310 := Tryz.func173.trans (congrArg some (by kernel_rfl))
 f329 := Tryz.func186.trans (congrArg some (by kernel_rfl))
 f330 := Tryz.func187.trans (congrArg some (by kernel_rfl))
 f333 := Tryz.func194.trans (congrArg some (by kernel_rfl))
 f334 := Tryz.func195.trans (congrArg some (by kernel_rfl))
 f335 := Tryz.func196.trans (congrArg some (by kernel_rfl))
 f336 := Tryz.func197.trans (congrArg some (by kernel_rfl))
 f344 := Tryz.func214.trans (congrArg some (by kernel_rfl))
 t0 := Tryz.underlying0
 a0 := Tryz.isAgg0
 z0 := Tryz.sizeOf0
 v0 := Tryz.zeroValue0
 t3 := Tryz.underlying3
 a3 := Tryz.isAgg3
 z3 := Tryz.sizeOf3
 v3 := Tryz.zeroValue3
 t4 := Tryz.underlying4
 a4 := Tryz.isAgg4
 z4 := Tryz.sizeOf4
 v4 := Tryz.zeroValue4
 t5 := Tryz.underlying5
 a5 := Tryz.isAgg5
 z5 := Tryz.sizeOf5
 v5 := Tryz.zeroValue5
 t9 := Tryz.underlying9
 a9 := Tryz.isAgg9
 z9 := Tryz.sizeOf9
 v9 := Tryz.zeroValue9
 t31 := Tryz.underlying25
 a31 := Tryz.isAgg25
 z31 := Tryz.sizeOf25
 v31 := Tryz.zeroValue25
 t46 := Tryz.underlying45
 a46 := Tryz.isAgg45
 z46 := Tryz.sizeOf45
 v46 := Tryz.zeroValue45
 t51 := Tryz.underlying65
 a51 := Tryz.isAgg65
 z51 := Tryz.sizeOf65
 v51 := Tryz.zeroValue65
 t53 := Tryz.underlying186
 a53 := Tryz.isAgg186
 z53 := Tryz.sizeOf186
 v53 := Tryz.zeroValue186
 t131 := Tryz.underlying182
 a131 := Tryz.isAgg182
 z131 := Tryz.sizeOf182
 v131 := Tryz.zeroValue182
 t182 := Tryz.underlying177
 a182 := Tryz.isAgg177
 z182 := Tryz.sizeOf177
 v182 := Tryz.zeroValue177
 t183 := Tryz.underlying178
 a183 := Tryz.isAgg178
 z183 := Tryz.sizeOf178
 v183 := Tryz.zeroValue178
 t218 := Tryz.underlying205
 a218 := Tryz.isAgg205
 z218 := Tryz.sizeOf205
 v218 := Tryz.zeroValue205
 t222 := Tryz.underlying199
 a222 := Tryz.isAgg199
 z222 := Tryz.sizeOf199
 v222 := Tryz.zeroValue199
 t228 := Tryz.underlying227
 a228 := Tryz.isAgg227
 z228 := Tryz.sizeOf227
 v228 := Tryz.zeroValue227
 t229 := Tryz.underlying228
 a229 := Tryz.isAgg228
 z229 := Tryz.sizeOf228
 v229 := Tryz.zeroValue228 }
open Go.Sort Go.RowKit in
theorem Tryz.slices_Sort_string (blk off cap : Nat) (ss : List (List UInt8)) (w : World) (hH : Holds encStr w blk off ss.toArray) (hblk : blk < w.heap.size) (hsz : ss.length < 4611686018427387904) :
    Calls Tryz.prog 87 #[.slice (some ⟨blk, off, none⟩) ss.length cap] w fun e w' =>
      e = .returned (.tuple #[]) ∧ ∃ n os, w' = grow (putRow encStr (Sort.ahead w n) blk off (ss.mergeSort fun x y => decide (x ≤ y)).toArray) os := Any.slices_Sort_string Tryz.lays190 blk off cap ss w hH hblk hsz
def Tryz.lays194_ren : Go.Shelf.Ren := ⟨fun | 194 => 88 | n => n, fun | 31 => 25 | 9 => 9 | 3 => 3 | 4 => 4 | 0 => 0 | n => n, fun | n => n⟩
theorem Tryz.lays194 : Go.Proofs.Lays.n194 Tryz.prog Tryz.lays194_ren := {
  mixed := by kernel_rfl
  f194 := Tryz.func88.trans (congrArg some (by kernel_rfl))
  t0 := Tryz.underlying0
  a0 := Tryz.isAgg0
  z0 := Tryz.sizeOf0
  v0 := Tryz.zeroValue0
  t3 := Tryz.underlying3
  a3 := Tryz.isAgg3
  z3 := Tryz.sizeOf3
  v3 := Tryz.zeroValue3
  t4 := Tryz.underlying4
  a4 := Tryz.isAgg4
  z4 := Tryz.sizeOf4
  v4 := Tryz.zeroValue4
  t9 := Tryz.underlying9
  a9 := Tryz.isAgg9
  z9 := Tryz.sizeOf9
  v9 := Tryz.zeroValue9
  t31 := Tryz.underlying25
  a31 := Tryz.isAgg25
  z31 := Tryz.sizeOf25
  v31 := Tryz.zeroValue25 }
open Go.RowKit Go.Lib Go.Sort in
theorem Tryz.slices_Compact_string (blk off cap : Nat) (zs : List (List UInt8)) (w : World) (hH : Holds encStr w blk off zs.toArray) (hsz : zs.length ≤ 9223372036854775807) (hcap : zs.length ≤ cap) :
    Calls Tryz.prog 88 #[.slice (some ⟨blk, off, none⟩) zs.length cap] w fun e w' => e = .returned (.slice (some ⟨blk, off, none⟩) (Lib.compact zs).length cap) ∧ ∃ q, w' = putRow encStr (Sort.ahead w q) blk off (Lib.compact zs ++ List.replicate (zs.length - (Lib.compact zs).length) []).toArray := Any.slices_Compact_string Tryz.lays194 blk off cap zs w hH hsz hcap
open Go.RowKit Go.Lib Go.Sort in
theorem Tryz.slices_Compact_string_empty (a : Option Addr) (cap : Nat) (w : World) :
    Calls Tryz.prog 88 #[.slice a 0 cap] w fun e w' => e = .returned (.slice a 0 cap) ∧ w' = w := Any.slices_Compact_string_empty Tryz.lays194 a cap w
open Go.RowKit Go.Sort in
theorem Tryz.slices_Sort_string_none (p : Option Addr) (cap : Nat) (w : World) :
    Calls Tryz.prog 87 #[.slice p 0 cap] w fun e w' => e = .returned (.tuple #[]) ∧ w' = w := Any.slices_Sort_string_none Tryz.lays190 p cap w
end Go.Proofs
namespace Go.Proofs
open Go.Shelf
def Tryz.lays106_ren : Go.Shelf.Ren := ⟨fun | 106 => 71 | 213 => 123 | 265 => 160 | n => n, fun | 9 => 9 | 3 => 3 | n => n, fun | n => n⟩
theorem Tryz.lays106 : Go.Proofs.Lays.n106 Tryz.prog Tryz.lays106_ren := {
  mixed := by kernel_rfl
  f106 := Tryz.func71.trans (congrArg some (by kernel_rfl))
  f213 := Tryz.func123.trans (congrArg some (by kernel_rfl))
  f265 := Tryz.func160.trans (congrArg some (by kernel_rfl))
  t3 := Tryz.underlying3
  a3 := Tryz.isAgg3
  z3 := Tryz.sizeOf3
  v3 := Tryz.zeroValue3
  t9 := Tryz.underlying9
  a9 := Tryz.isAgg9
  z9 := Tryz.sizeOf9
  v9 := Tryz.zeroValue9 }
open Go.RowKit in
theorem Tryz.strings_Compare (a b : ByteArray) (w : World) :
    Calls Tryz.prog 71 #[.string a, .string b] w fun e w' => e = .returned (.int .i64 (Lib.compareBytes a.data.toList b.data.toList)) ∧ w' = w := Any.strings_Compare Tryz.lays106 a b w
end Go.Proofs
namespace Go.Proofs.YtpdbbglpbngeiaaGreatDoor
open Go Go.Sx Go.Proofs
attribute [local irreducible] Code.wp wpList wpAnyH
open Go.Vs
theorem jX_ (c : UInt8) :
  Fn0 Tryz.prog 216 #[.int .u8 (c.toNat : Int)] (.bool (ey_ c)) := by
 refine M_ Tryz.func216 rfl rfl Tryz.ntmps216 rfl fun v0 => ?_
 refine f_ (c_ (a_ (g_ rfl) rfl (d_ (b_ rfl (f_ (c_ (a_ (h_ rfl) rfl (x_ (cJ_ rfl rfl) rfl fun r1 hr1 => ?_))))))))
 refine a_ (h_ rfl) rfl ?_
 cases r1
 ·
  replace hr1 := of_decide_eq_false hr1
  refine t_ rfl rfl rfl rfl (t_ rfl rfl rfl rfl (a_ (N_ rfl rfl) rfl (a_ (h_ rfl) rfl (o_ rfl rfl (a_ (h_ rfl) rfl (o_ rfl rfl (x_ (cJ_ rfl rfl) rfl fun r2 hr2 => ?_)))))))
  refine o_ rfl rfl (a_ (h_ rfl) rfl ?_)
  cases r2
  ·
   replace hr2 := of_decide_eq_false hr2
   refine t_ rfl rfl rfl rfl (t_ rfl rfl rfl rfl (o_ rfl rfl (a_ (N_ rfl rfl) rfl (a_ (N_ rfl rfl) rfl (a_ (g_ rfl) rfl (d_ (b_ rfl (B_ ?_))))))))
   exact as_ os_ () (E_ rfl (by subst_vars; rw [Bool.eq_iff_iff]; simp [ey_] <;> omega)) (.refl _) (fun _ _ _ => trivial)
  ·
   replace hr2 := of_decide_eq_true hr2
   refine o_ rfl rfl (a_ (h_ rfl) rfl (o_ rfl rfl (x_ (cJ_ rfl rfl) rfl fun r3 hr3 => ?_)))
   refine o_ rfl rfl (a_ (R_ rfl rfl) rfl (a_ (N_ rfl rfl) rfl (a_ (g_ rfl) rfl (d_ (b_ rfl (B_ ?_))))))
   exact as_ os_ () (E_ rfl (by subst_vars; rw [Bool.eq_iff_iff]; simp [ey_] <;> omega)) (.refl _) (fun _ _ _ => trivial)
 ·
  replace hr1 := of_decide_eq_true hr1
  refine o_ rfl rfl (a_ (h_ rfl) rfl (o_ rfl rfl (x_ (cJ_ rfl rfl) rfl fun r4 hr4 => ?_)))
  refine a_ (R_ rfl rfl) rfl (a_ (h_ rfl) rfl ?_)
  cases r4
  ·
   replace hr4 := of_decide_eq_false hr4
   refine o_ rfl rfl (a_ (h_ rfl) rfl (o_ rfl rfl (x_ (cJ_ rfl rfl) rfl fun r5 hr5 => ?_)))
   refine o_ rfl rfl (a_ (h_ rfl) rfl ?_)
   cases r5
   ·
    replace hr5 := of_decide_eq_false hr5
    refine t_ rfl rfl rfl rfl (t_ rfl rfl rfl rfl (o_ rfl rfl (a_ (N_ rfl rfl) rfl (a_ (N_ rfl rfl) rfl (a_ (g_ rfl) rfl (d_ (b_ rfl (B_ ?_))))))))
    exact as_ os_ () (E_ rfl (by subst_vars; rw [Bool.eq_iff_iff]; simp [ey_] <;> omega)) (.refl _) (fun _ _ _ => trivial)
   ·
    replace hr5 := of_decide_eq_true hr5
    refine o_ rfl rfl (a_ (h_ rfl) rfl (o_ rfl rfl (x_ (cJ_ rfl rfl) rfl fun r6 hr6 => ?_)))
    refine o_ rfl rfl (a_ (R_ rfl rfl) rfl (a_ (N_ rfl rfl) rfl (a_ (g_ rfl) rfl (d_ (b_ rfl (B_ ?_))))))
    exact as_ os_ () (E_ rfl (by subst_vars; rw [Bool.eq_iff_iff]; simp [ey_] <;> omega)) (.refl _) (fun _ _ _ => trivial)
  ·
   replace hr4 := of_decide_eq_true hr4
   refine t_ rfl rfl rfl rfl (t_ rfl rfl rfl rfl (t_ rfl rfl rfl rfl (t_ rfl rfl rfl rfl (t_ rfl rfl rfl rfl (t_ rfl rfl rfl rfl (a_ (R_ rfl rfl) rfl (a_ (g_ rfl) rfl (d_ (b_ rfl ?_)))))))))
   refine B_ ?_
   exact as_ os_ () (E_ rfl (by subst_vars; rw [Bool.eq_iff_iff]; simp [ey_] <;> omega)) (.refl _) (fun _ _ _ => trivial)
theorem mY_ (s : Str) (hs : s.length ≤ 140737488351232) :
  Fn0 Tryz.prog 213 #[str s] (.bool (iG_ s)) := by
 refine M_ Tryz.func213 rfl rfl Tryz.ntmps213 rfl fun v0 => ?_
 refine f_ (c_ (a_ (g_ rfl) rfl (d_ (b_ rfl (f_ (f_ (c_ (a_ (h_ rfl) rfl (rW_ ar_ Tryz.runUnderlying242 Tryz.runUnderlying5 rfl rfl fun cap b1 hcap => ?_)))))))))
 refine a_ (ah_ Tryz.runUnderlying242 rfl) rfl (a_ (h_ rfl) rfl (d_ (b_ rfl (S_ (bS_ [(6, .slice (some ⟨b1, 0, none⟩) s.length cap), (7, .int .i64 (s.length : Int)), (8, .int .i64 ((0 : Nat) : Int))] ⟨rfl, rfl, rfl, trivial⟩ ?_)))))
 refine bY_ (ι := {k : Nat // k ≤ s.length ∧ (s.take k).all eQ_ = true}) (fun i => [(6, .slice (some ⟨b1, 0, none⟩) s.length cap), (7, .int .i64 (s.length : Int)), (8, .int .i64 (i.1 : Int))]) (fun _ => _) (fun _ => _) (fun i => s.length - i.1) ⟨0, by simp⟩ ?_
 rintro ⟨k, hk⟩
 refine bS_ [(6, .slice (some ⟨b1, 0, none⟩) s.length cap), (7, .int .i64 (s.length : Int)), (8, .int .i64 (k : Int))] ⟨rfl, rfl, rfl, trivial⟩ ?_
 refine f_ (c_ (x_ (az_ rfl rfl) rfl fun r1 hr1 => ?_))
 refine d_ (b_ rfl (f_ ?_))
 cases r1
 ·
  replace hr1 := of_decide_eq_false hr1
  refine p_ rfl (aD_ rfl (b_ rfl (f_ (c_ (a_ (g_ rfl) rfl (d_ (b_ rfl (B_ ?_))))))))
  exact as_ Tryz.results213 () (E_ rfl (by rw [iG_, le_ eQ_ s k (by omega) hk.2])) (.refl _) (fun _ _ _ => trivial)
 ·
  replace hr1 := of_decide_eq_true hr1
  have hlt : k < s.length := by omega
  obtain ⟨c, hc⟩ : ∃ c, s[k]? = some c := ⟨_, List.getElem?_eq_getElem hlt⟩
  refine n_ rfl (A_ (b_ rfl (f_ (S_ (f_ (c_ (a_ (fF_ Tryz.runUnderlying242 Tryz.sizeOf5 rfl rfl (by omega) (by omega)) rfl (a_ (q_ (u := .int .u8 (c.toNat : Int)) 0 Tryz.isAgg5 rfl rfl (by rw [show 0 + ((k : Int)).toNat * 1 = k by omega]; exact qI_ hc)) rfl (a_ (g_ rfl) rfl ?_)))))))))
  refine d_ (b_ rfl (f_ (c_ (a_ (h_ rfl) rfl (ax_ (jX_ c) rfl (.refl _) (fun _ _ _ => trivial) rfl fun r2 hr2 => ?_)))))
  refine a_ (bG_ rfl) rfl (a_ (h_ rfl) rfl ?_)
  cases r2
  ·
   refine o_ rfl rfl (a_ (h_ rfl) rfl (o_ rfl rfl (x_ (bR_ rfl rfl) rfl fun r3 hr3 => ?_)))
   refine a_ (R_ rfl rfl) rfl (a_ (h_ rfl) rfl ?_)
   cases r3
   ·
    replace hr3 := bc_ hr3
    refine t_ rfl rfl rfl rfl (t_ rfl rfl rfl rfl (t_ rfl rfl rfl rfl (t_ rfl rfl rfl rfl (t_ rfl rfl rfl rfl (t_ rfl rfl rfl rfl (a_ (N_ rfl rfl) rfl (d_ (b_ rfl (p_ rfl ?_)))))))))
    refine A_ (b_ rfl (c_ (a_ (V_ rfl rfl rfl (aq_ (by omega) (by omega))) rfl (a_ (h_ rfl) rfl (d_ (r_ rfl ?_))))))
    exact ao_ ⟨k + 1, hlt, fB_ _ s k c hc hk.2 (by simp [eQ_, *] <;> omega)⟩ (by simp; omega) ⟨rfl, rfl, rfl, trivial⟩ (.refl _) (fun _ _ h => h)
   ·
    replace hr3 := bb_ hr3
    refine o_ rfl rfl (a_ (h_ rfl) rfl (o_ rfl rfl (x_ (az_ rfl rfl) rfl fun r4 hr4 => ?_)))
    refine o_ rfl rfl (a_ (h_ rfl) rfl ?_)
    cases r4
    ·
     replace hr4 := of_decide_eq_false hr4
     refine o_ rfl rfl (a_ (h_ rfl) rfl (o_ rfl rfl (x_ (bK_ rfl rfl) rfl fun r5 hr5 => ?_)))
     refine o_ rfl rfl (a_ (N_ rfl rfl) rfl (a_ (R_ rfl rfl) rfl (d_ (b_ rfl ?_))))
     cases r5
     ·
      replace hr5 := of_decide_eq_false hr5
      refine p_ rfl (A_ (b_ rfl (c_ (a_ (V_ rfl rfl rfl (aq_ (by omega) (by omega))) rfl (a_ (h_ rfl) rfl (d_ (r_ rfl ?_)))))))
      exact ao_ ⟨k + 1, hlt, fB_ _ s k c hc hk.2 (by simp [eQ_, *] <;> omega)⟩ (by simp; omega) ⟨rfl, rfl, rfl, trivial⟩ (.refl _) (fun _ _ h => h)
     ·
      replace hr5 := of_decide_eq_true hr5
      refine n_ rfl (f_ (c_ (a_ (g_ rfl) rfl (d_ (b_ rfl (B_ ?_))))))
      exact as_ Tryz.results213 () (E_ rfl (by rw [iG_, hL_ eQ_ s k c hc (by simp [eQ_, *] <;> omega)])) (.refl _) (fun _ _ _ => trivial)
    ·
     replace hr4 := of_decide_eq_true hr4
     refine t_ rfl rfl rfl rfl (t_ rfl rfl rfl rfl (o_ rfl rfl (a_ (R_ rfl rfl) rfl (a_ (R_ rfl rfl) rfl (d_ (b_ rfl (n_ rfl (f_ (c_ ?_)))))))))
     refine a_ (g_ rfl) rfl (d_ (b_ rfl (B_ ?_)))
     exact as_ Tryz.results213 () (E_ rfl (by rw [iG_, hL_ eQ_ s k c hc (by simp [eQ_, *] <;> omega)])) (.refl _) (fun _ _ _ => trivial)
  ·
   refine t_ rfl rfl rfl rfl (t_ rfl rfl rfl rfl (a_ (N_ rfl rfl) rfl (a_ (h_ rfl) rfl (t_ rfl rfl rfl rfl (t_ rfl rfl rfl rfl (t_ rfl rfl rfl rfl (t_ rfl rfl rfl rfl (t_ rfl rfl rfl rfl (t_ rfl rfl rfl rfl ?_)))))))))
   refine a_ (N_ rfl rfl) rfl (d_ (b_ rfl (p_ rfl (A_ (b_ rfl (c_ (a_ (V_ rfl rfl rfl (aq_ (by omega) (by omega))) rfl (a_ (h_ rfl) rfl (d_ ?_)))))))))
   refine r_ rfl ?_
   exact ao_ ⟨k + 1, hlt, fB_ _ s k c hc hk.2 (by simp [eQ_, *] <;> omega)⟩ (by simp; omega) ⟨rfl, rfl, rfl, trivial⟩ (.refl _) (fun _ _ h => h)
theorem py_ (s : Str) :
  Fn0 Tryz.prog 217 #[str s] (.bool (bQ_ s)) := by
 refine M_ Tryz.func217 rfl rfl Tryz.ntmps217 rfl fun v0 => ?_
 refine f_ (c_ (a_ (g_ rfl) rfl (d_ (b_ rfl (f_ (f_ (c_ (a_ (h_ rfl) rfl (d_ ?_)))))))))
 refine b_ rfl (S_ (f_ (f_ (c_ (x_ (bv_ rfl rfl) rfl fun r1 hr1 => ?_)))))
 refine a_ (g_ rfl) rfl (d_ (b_ rfl ?_))
 cases r1
 ·
  replace hr1 := ne_of_beq_false hr1
  refine p_ rfl (f_ (c_ (x_ (bv_ rfl rfl) rfl fun r2 hr2 => ?_)))
  refine a_ (g_ rfl) rfl (d_ (b_ rfl ?_))
  cases r2
  ·
   replace hr2 := ne_of_beq_false hr2
   refine p_ rfl (f_ (c_ (x_ (bv_ rfl rfl) rfl fun r3 hr3 => ?_)))
   refine a_ (g_ rfl) rfl (d_ (b_ rfl ?_))
   cases r3
   ·
    replace hr3 := ne_of_beq_false hr3
    refine p_ rfl (f_ (c_ (x_ (bv_ rfl rfl) rfl fun r4 hr4 => ?_)))
    refine a_ (g_ rfl) rfl (d_ (b_ rfl ?_))
    cases r4
    ·
     replace hr4 := ne_of_beq_false hr4
     refine p_ rfl (f_ (c_ (x_ (bv_ rfl rfl) rfl fun r5 hr5 => ?_)))
     refine a_ (g_ rfl) rfl (d_ (b_ rfl ?_))
     cases r5
     ·
      replace hr5 := ne_of_beq_false hr5
      refine p_ rfl (f_ (c_ (x_ (bv_ rfl rfl) rfl fun r6 hr6 => ?_)))
      refine a_ (g_ rfl) rfl (d_ (b_ rfl ?_))
      cases r6
      ·
       replace hr6 := ne_of_beq_false hr6
       refine p_ rfl (f_ (c_ (x_ (bv_ rfl rfl) rfl fun r7 hr7 => ?_)))
       refine a_ (g_ rfl) rfl (d_ (b_ rfl ?_))
       cases r7
       ·
        replace hr7 := ne_of_beq_false hr7
        refine p_ rfl (f_ (c_ (x_ (bv_ rfl rfl) rfl fun r8 hr8 => ?_)))
        refine a_ (g_ rfl) rfl (d_ (b_ rfl ?_))
        cases r8
        ·
         replace hr8 := ne_of_beq_false hr8
         refine p_ rfl (f_ (c_ (x_ (bv_ rfl rfl) rfl fun r9 hr9 => ?_)))
         refine a_ (g_ rfl) rfl (d_ (b_ rfl ?_))
         cases r9
         ·
          replace hr9 := ne_of_beq_false hr9
          refine p_ rfl (f_ (c_ (x_ (bv_ rfl rfl) rfl fun r10 hr10 => ?_)))
          refine a_ (g_ rfl) rfl (d_ (b_ rfl ?_))
          cases r10
          ·
           replace hr10 := ne_of_beq_false hr10
           refine p_ rfl (f_ (c_ (x_ (bv_ rfl rfl) rfl fun r11 hr11 => ?_)))
           refine a_ (g_ rfl) rfl (d_ (b_ rfl ?_))
           cases r11
           ·
            replace hr11 := ne_of_beq_false hr11
            refine p_ rfl (f_ (c_ (x_ (bv_ rfl rfl) rfl fun r12 hr12 => ?_)))
            refine a_ (g_ rfl) rfl (d_ (b_ rfl ?_))
            cases r12
            ·
             replace hr12 := ne_of_beq_false hr12
             refine p_ rfl (f_ (c_ (x_ (bv_ rfl rfl) rfl fun r13 hr13 => ?_)))
             refine a_ (g_ rfl) rfl (d_ (b_ rfl ?_))
             cases r13
             ·
              replace hr13 := ne_of_beq_false hr13
              refine p_ rfl (f_ (c_ (x_ (bv_ rfl rfl) rfl fun r14 hr14 => ?_)))
              refine a_ (g_ rfl) rfl (d_ (b_ rfl ?_))
              cases r14
              ·
               replace hr14 := ne_of_beq_false hr14
               refine p_ rfl (f_ (c_ (x_ (bv_ rfl rfl) rfl fun r15 hr15 => ?_)))
               refine a_ (g_ rfl) rfl (d_ (b_ rfl ?_))
               cases r15
               ·
                replace hr15 := ne_of_beq_false hr15
                refine p_ rfl (f_ (c_ (x_ (bv_ rfl rfl) rfl fun r16 hr16 => ?_)))
                refine a_ (g_ rfl) rfl (d_ (b_ rfl ?_))
                cases r16
                ·
                 replace hr16 := ne_of_beq_false hr16
                 refine p_ rfl (f_ (c_ (x_ (bv_ rfl rfl) rfl fun r17 hr17 => ?_)))
                 refine a_ (g_ rfl) rfl (d_ (b_ rfl ?_))
                 cases r17
                 ·
                  replace hr17 := ne_of_beq_false hr17
                  refine p_ rfl (f_ (c_ (x_ (bv_ rfl rfl) rfl fun r18 hr18 => ?_)))
                  refine a_ (g_ rfl) rfl (d_ (b_ rfl ?_))
                  cases r18
                  ·
                   replace hr18 := ne_of_beq_false hr18
                   refine p_ rfl (f_ (c_ (x_ (bv_ rfl rfl) rfl fun r19 hr19 => ?_)))
                   refine a_ (g_ rfl) rfl (d_ (b_ rfl ?_))
                   cases r19
                   ·
                    replace hr19 := ne_of_beq_false hr19
                    refine p_ rfl (f_ (c_ (x_ (bv_ rfl rfl) rfl fun r20 hr20 => ?_)))
                    refine a_ (g_ rfl) rfl (d_ (b_ rfl ?_))
                    cases r20
                    ·
                     replace hr20 := ne_of_beq_false hr20
                     refine p_ rfl (f_ (c_ (x_ (bv_ rfl rfl) rfl fun r21 hr21 => ?_)))
                     refine a_ (g_ rfl) rfl (d_ (b_ rfl ?_))
                     cases r21
                     ·
                      replace hr21 := ne_of_beq_false hr21
                      refine p_ rfl (c_ (x_ (bv_ rfl rfl) rfl fun r22 hr22 => ?_))
                      refine a_ (g_ rfl) rfl (d_ (b_ rfl ?_))
                      cases r22
                      ·
                       replace hr22 := ne_of_beq_false hr22
                       refine p_ rfl (A_ (b_ rfl (f_ (c_ (a_ (g_ rfl) rfl (d_ (b_ rfl (B_ ?_))))))))
                       exact as_ aY_ () (E_ rfl (by simp [bQ_, kws, *])) (.refl _) (fun _ _ _ => trivial)
                      ·
                       replace hr22 := eq_of_beq hr22
                       refine n_ rfl (f_ (c_ (a_ (g_ rfl) rfl (d_ (b_ rfl (B_ ?_))))))
                       exact as_ aY_ () (E_ rfl (by simp [bQ_, kws, *])) (.refl _) (fun _ _ _ => trivial)
                     ·
                      replace hr21 := eq_of_beq hr21
                      refine n_ rfl (A_ (b_ rfl (n_ rfl (f_ (c_ (a_ (g_ rfl) rfl (d_ (b_ rfl (B_ ?_)))))))))
                      exact as_ aY_ () (E_ rfl (by simp [bQ_, kws, *])) (.refl _) (fun _ _ _ => trivial)
                    ·
                     replace hr20 := eq_of_beq hr20
                     refine n_ rfl (A_ (b_ rfl (n_ rfl (f_ (c_ (a_ (g_ rfl) rfl (d_ (b_ rfl (B_ ?_)))))))))
                     exact as_ aY_ () (E_ rfl (by simp [bQ_, kws, *])) (.refl _) (fun _ _ _ => trivial)
                   ·
                    replace hr19 := eq_of_beq hr19
                    refine n_ rfl (A_ (b_ rfl (n_ rfl (f_ (c_ (a_ (g_ rfl) rfl (d_ (b_ rfl (B_ ?_)))))))))
                    exact as_ aY_ () (E_ rfl (by simp [bQ_, kws, *])) (.refl _) (fun _ _ _ => trivial)
                  ·
                   replace hr18 := eq_of_beq hr18
                   refine n_ rfl (A_ (b_ rfl (n_ rfl (f_ (c_ (a_ (g_ rfl) rfl (d_ (b_ rfl (B_ ?_)))))))))
                   exact as_ aY_ () (E_ rfl (by simp [bQ_, kws, *])) (.refl _) (fun _ _ _ => trivial)
                 ·
                  replace hr17 := eq_of_beq hr17
                  refine n_ rfl (A_ (b_ rfl (n_ rfl (f_ (c_ (a_ (g_ rfl) rfl (d_ (b_ rfl (B_ ?_)))))))))
                  exact as_ aY_ () (E_ rfl (by simp [bQ_, kws, *])) (.refl _) (fun _ _ _ => trivial)
                ·
                 replace hr16 := eq_of_beq hr16
                 refine n_ rfl (A_ (b_ rfl (n_ rfl (f_ (c_ (a_ (g_ rfl) rfl (d_ (b_ rfl (B_ ?_)))))))))
                 exact as_ aY_ () (E_ rfl (by simp [bQ_, kws, *])) (.refl _) (fun _ _ _ => trivial)
               ·
                replace hr15 := eq_of_beq hr15
                refine n_ rfl (A_ (b_ rfl (n_ rfl (f_ (c_ (a_ (g_ rfl) rfl (d_ (b_ rfl (B_ ?_)))))))))
                exact as_ aY_ () (E_ rfl (by simp [bQ_, kws, *])) (.refl _) (fun _ _ _ => trivial)
              ·
               replace hr14 := eq_of_beq hr14
               refine n_ rfl (A_ (b_ rfl (n_ rfl (f_ (c_ (a_ (g_ rfl) rfl (d_ (b_ rfl (B_ ?_)))))))))
               exact as_ aY_ () (E_ rfl (by simp [bQ_, kws, *])) (.refl _) (fun _ _ _ => trivial)
             ·
              replace hr13 := eq_of_beq hr13
              refine n_ rfl (A_ (b_ rfl (n_ rfl (f_ (c_ (a_ (g_ rfl) rfl (d_ (b_ rfl (B_ ?_)))))))))
              exact as_ aY_ () (E_ rfl (by simp [bQ_, kws, *])) (.refl _) (fun _ _ _ => trivial)
            ·
             replace hr12 := eq_of_beq hr12
             refine n_ rfl (A_ (b_ rfl (n_ rfl (f_ (c_ (a_ (g_ rfl) rfl (d_ (b_ rfl (B_ ?_)))))))))
             exact as_ aY_ () (E_ rfl (by simp [bQ_, kws, *])) (.refl _) (fun _ _ _ => trivial)
           ·
            replace hr11 := eq_of_beq hr11
            refine n_ rfl (A_ (b_ rfl (n_ rfl (f_ (c_ (a_ (g_ rfl) rfl (d_ (b_ rfl (B_ ?_)))))))))
            exact as_ aY_ () (E_ rfl (by simp [bQ_, kws, *])) (.refl _) (fun _ _ _ => trivial)
          ·
           replace hr10 := eq_of_beq hr10
           refine n_ rfl (A_ (b_ rfl (n_ rfl (f_ (c_ (a_ (g_ rfl) rfl (d_ (b_ rfl (B_ ?_)))))))))
           exact as_ aY_ () (E_ rfl (by simp [bQ_, kws, *])) (.refl _) (fun _ _ _ => trivial)
         ·
          replace hr9 := eq_of_beq hr9
          refine n_ rfl (A_ (b_ rfl (n_ rfl (f_ (c_ (a_ (g_ rfl) rfl (d_ (b_ rfl (B_ ?_)))))))))
          exact as_ aY_ () (E_ rfl (by simp [bQ_, kws, *])) (.refl _) (fun _ _ _ => trivial)
        ·
         replace hr8 := eq_of_beq hr8
         refine n_ rfl (A_ (b_ rfl (n_ rfl (f_ (c_ (a_ (g_ rfl) rfl (d_ (b_ rfl (B_ ?_)))))))))
         exact as_ aY_ () (E_ rfl (by simp [bQ_, kws, *])) (.refl _) (fun _ _ _ => trivial)
       ·
        replace hr7 := eq_of_beq hr7
        refine n_ rfl (A_ (b_ rfl (n_ rfl (f_ (c_ (a_ (g_ rfl) rfl (d_ (b_ rfl (B_ ?_)))))))))
        exact as_ aY_ () (E_ rfl (by simp [bQ_, kws, *])) (.refl _) (fun _ _ _ => trivial)
      ·
       replace hr6 := eq_of_beq hr6
       refine n_ rfl (A_ (b_ rfl (n_ rfl (f_ (c_ (a_ (g_ rfl) rfl (d_ (b_ rfl (B_ ?_)))))))))
       exact as_ aY_ () (E_ rfl (by simp [bQ_, kws, *])) (.refl _) (fun _ _ _ => trivial)
     ·
      replace hr5 := eq_of_beq hr5
      refine n_ rfl (A_ (b_ rfl (n_ rfl (f_ (c_ (a_ (g_ rfl) rfl (d_ (b_ rfl (B_ ?_)))))))))
      exact as_ aY_ () (E_ rfl (by simp [bQ_, kws, *])) (.refl _) (fun _ _ _ => trivial)
    ·
     replace hr4 := eq_of_beq hr4
     refine n_ rfl (A_ (b_ rfl (n_ rfl (f_ (c_ (a_ (g_ rfl) rfl (d_ (b_ rfl (B_ ?_)))))))))
     exact as_ aY_ () (E_ rfl (by simp [bQ_, kws, *])) (.refl _) (fun _ _ _ => trivial)
   ·
    replace hr3 := eq_of_beq hr3
    refine n_ rfl (A_ (b_ rfl (n_ rfl (f_ (c_ (a_ (g_ rfl) rfl (d_ (b_ rfl (B_ ?_)))))))))
    exact as_ aY_ () (E_ rfl (by simp [bQ_, kws, *])) (.refl _) (fun _ _ _ => trivial)
  ·
   replace hr2 := eq_of_beq hr2
   refine n_ rfl (A_ (b_ rfl (n_ rfl (f_ (c_ (a_ (g_ rfl) rfl (d_ (b_ rfl (B_ ?_)))))))))
   exact as_ aY_ () (E_ rfl (by simp [bQ_, kws, *])) (.refl _) (fun _ _ _ => trivial)
 ·
  replace hr1 := eq_of_beq hr1
  refine n_ rfl (A_ (b_ rfl (n_ rfl (f_ (c_ (a_ (g_ rfl) rfl (d_ (b_ rfl (B_ ?_)))))))))
  exact as_ aY_ () (E_ rfl (by simp [bQ_, kws, *])) (.refl _) (fun _ _ _ => trivial)
end Go.Proofs.YtpdbbglpbngeiaaGreatDoor
namespace Go.Proofs.YtpdbbglpbngeiaaGreatDoor
open Go Go.Sx Go.Proofs
attribute [local irreducible] Code.wp wpList wpAnyH
open Go.Vs
theorem jW_ (s : Str) (hs : s.length ≤ 140737488351232) :
    Fn0 Tryz.prog 199 #[str s] (.bool (gD_ s)) := by
  refine M_ Tryz.func199 rfl rfl Tryz.ntmps199 rfl fun v0 => ?_
  refine f_ (c_ (a_ (g_ rfl) rfl (d_ (b_ rfl (f_ (c_ (a_ (h_ rfl) rfl (x_ (eI_ rfl rfl) rfl fun r1 hr1 => ?_))))))))
  refine a_ (h_ rfl) rfl ?_
  cases r1
  · skip
    replace hr1 := bc_ hr1
    refine t_ rfl rfl rfl rfl (t_ rfl rfl rfl rfl (t_ rfl rfl rfl rfl (a_ (N_ rfl rfl) rfl (a_ (h_ rfl) rfl (t_ rfl rfl rfl rfl (t_ rfl rfl rfl rfl (a_ (N_ rfl rfl) rfl (a_ (h_ rfl) rfl (t_ rfl rfl rfl rfl ?_)))))))))
    refine t_ rfl rfl rfl rfl (t_ rfl rfl rfl rfl (a_ (N_ rfl rfl) rfl (a_ (g_ rfl) rfl (d_ (b_ rfl (B_ ?_))))))
    exact as_ Tryz.results199 () (E_ rfl (by simp [gD_, *])) (.refl _) (fun _ _ _ => trivial)
  · skip
    replace hr1 := bb_ hr1
    obtain ⟨c, t, rfl⟩ := List.exists_cons_of_ne_nil hr1
    refine o_ rfl rfl (a_ (h_ rfl) rfl (o_ rfl rfl (a_ (dM_ ar_ rfl rfl (by decide) rfl) rfl (o_ rfl rfl (ax_ (jX_ _) rfl (.refl _) (fun _ _ _ => trivial) rfl fun r2 hr2 => ?_)))))
    refine a_ (R_ rfl rfl) rfl (a_ (h_ rfl) rfl ?_)
    cases r2
    · skip
      refine t_ rfl rfl rfl rfl (t_ rfl rfl rfl rfl (a_ (N_ rfl rfl) rfl (a_ (h_ rfl) rfl (t_ rfl rfl rfl rfl (t_ rfl rfl rfl rfl (t_ rfl rfl rfl rfl (a_ (N_ rfl rfl) rfl (a_ (g_ rfl) rfl (d_ ?_)))))))))
      refine b_ rfl (B_ ?_)
      exact as_ Tryz.results199 () (E_ rfl (by simp [gD_, *])) (.refl _) (fun _ _ _ => trivial)
    · skip
      refine o_ rfl rfl (a_ (h_ rfl) rfl (o_ rfl rfl (ax_ (mY_ _ (by assumption)) rfl (.refl _) (fun _ _ _ => trivial) rfl fun r3 hr3 => ?_)))
      refine a_ (R_ rfl rfl) rfl (a_ (h_ rfl) rfl ?_)
      cases r3
      · skip
        refine t_ rfl rfl rfl rfl (t_ rfl rfl rfl rfl (t_ rfl rfl rfl rfl (a_ (N_ rfl rfl) rfl (a_ (g_ rfl) rfl (d_ (b_ rfl (B_ ?_)))))))
        exact as_ Tryz.results199 () (E_ rfl (by simp [gD_, *])) (.refl _) (fun _ _ _ => trivial)
      · skip
        refine o_ rfl rfl (a_ (h_ rfl) rfl (o_ rfl rfl (ax_ (py_ _) rfl (.refl _) (fun _ _ _ => trivial) rfl fun r4 hr4 => ?_)))
        refine o_ rfl rfl (a_ (bG_ rfl) rfl (a_ (R_ rfl rfl) rfl (a_ (g_ rfl) rfl (d_ (b_ rfl (B_ ?_))))))
        exact as_ Tryz.results199 () (E_ rfl (by simp [gD_, *])) (.refl _) (fun _ _ _ => trivial)
theorem gm_ (s : Str) (hs : s.length ≤ 140737488351232) :
    Fn0 Tryz.prog 193 #[str s] (.bool (cU_ s)) := by
  refine M_ Tryz.func193 rfl rfl Tryz.ntmps193 rfl fun v0 => ?_
  refine f_ (c_ (a_ (g_ rfl) rfl (d_ (b_ rfl (f_ (c_ (a_ (h_ rfl) rfl (a_ (co_ ar_ rfl) rfl (x_ (dI_ rfl rfl) rfl fun r1 hr1 => ?_)))))))))
  refine a_ (h_ rfl) rfl ?_
  cases r1
  · skip
    replace hr1 := of_decide_eq_false hr1
    refine t_ rfl rfl rfl rfl (t_ rfl rfl rfl rfl (t_ rfl rfl rfl rfl (a_ (N_ rfl rfl) rfl (a_ (h_ rfl) rfl (t_ rfl rfl rfl rfl (t_ rfl rfl rfl rfl (t_ rfl rfl rfl rfl (a_ (N_ rfl rfl) rfl (a_ (h_ rfl) rfl ?_)))))))))
    refine t_ rfl rfl rfl rfl (t_ rfl rfl rfl rfl (a_ (N_ rfl rfl) rfl (a_ (g_ rfl) rfl (d_ (b_ rfl (B_ ?_))))))
    exact as_ Tryz.results193 () (E_ rfl (by subst_vars; rw [Bool.eq_iff_iff]; simp [cU_] <;> simp at * <;> omega)) (.refl _) (fun _ _ _ => trivial)
  · skip
    replace hr1 := of_decide_eq_true hr1
    refine o_ rfl rfl (a_ (h_ rfl) rfl (o_ rfl rfl (a_ (co_ ar_ rfl) rfl (o_ rfl rfl (x_ (cJ_ rfl rfl) rfl fun r2 hr2 => ?_)))))
    refine a_ (R_ rfl rfl) rfl (a_ (h_ rfl) rfl ?_)
    cases r2
    · skip
      replace hr2 := of_decide_eq_false hr2
      refine t_ rfl rfl rfl rfl (t_ rfl rfl rfl rfl (t_ rfl rfl rfl rfl (a_ (N_ rfl rfl) rfl (a_ (h_ rfl) rfl (t_ rfl rfl rfl rfl (t_ rfl rfl rfl rfl (a_ (N_ rfl rfl) rfl (a_ (g_ rfl) rfl (d_ ?_)))))))))
      refine b_ rfl (B_ ?_)
      exact as_ Tryz.results193 () (E_ rfl (by subst_vars; rw [Bool.eq_iff_iff]; simp [cU_] <;> simp at * <;> omega)) (.refl _) (fun _ _ _ => trivial)
    · skip
      replace hr2 := of_decide_eq_true hr2
      obtain ⟨c, t, rfl⟩ := List.exists_cons_of_length_pos (l := s) (by omega)
      refine o_ rfl rfl (a_ (h_ rfl) rfl (o_ rfl rfl (a_ (dM_ ar_ rfl rfl (by decide) rfl) rfl (o_ rfl rfl (x_ (aA_ rfl rfl) rfl fun r3 hr3 => ?_)))))
      refine a_ (R_ rfl rfl) rfl (a_ (h_ rfl) rfl ?_)
      cases r3
      · skip
        replace hr3 := ne_of_beq_false hr3
        refine t_ rfl rfl rfl rfl (t_ rfl rfl rfl rfl (a_ (N_ rfl rfl) rfl (a_ (g_ rfl) rfl (d_ (b_ rfl (B_ ?_))))))
        exact as_ Tryz.results193 () (E_ rfl (by subst_vars; rw [Bool.eq_iff_iff]; simp [cU_] <;> simp at * <;> omega)) (.refl _) (fun _ _ _ => trivial)
      · skip
        replace hr3 := eq_of_beq hr3
        refine o_ rfl rfl (a_ (h_ rfl) rfl (o_ rfl rfl (ax_ (mY_ _ (by assumption)) rfl (.refl _) (fun _ _ _ => trivial) rfl fun r4 hr4 => ?_)))
        refine a_ (R_ rfl rfl) rfl (a_ (g_ rfl) rfl (d_ (b_ rfl (B_ ?_))))
        exact as_ Tryz.results193 () (E_ rfl (by subst_vars; rw [Bool.eq_iff_iff]; simp [cU_] <;> simp at * <;> omega)) (.refl _) (fun _ _ _ => trivial)
theorem iK_ (s : Str) (c : UInt8) : Fn0 Tryz.prog 225 #[str s, str [c]] (.int .i64 (Lib.indexByte s c)) :=
  gq_ (callable Tryz.func225 rfl rfl) fun w => (Tryz.stringslite_Index_one ⟨s.toArray⟩ c w).mono (by rintro e w' ⟨rfl, rfl⟩; exact ⟨rfl, rfl, rfl, rfl, rfl, Nat.le_refl _⟩)
theorem lz_ (s : Str) (c : UInt8) (hk : ixS c s = none) : Fn0 Tryz.prog 225 #[str s, str [c]] (.int .i64 (-1)) := by
  have h := iK_ s c
  rw [jc_, hk] at h
  exact h
theorem ly_ (s : Str) (c : UInt8) (k : Nat) (hk : ixS c s = some k) : Fn0 Tryz.prog 225 #[str s, str [c]] (.int .i64 (k : Int)) := by
  have h := iK_ s c
  rw [jc_, hk] at h
  exact h
theorem pJ_ (s : Str) (c : UInt8) (hk : ixS c s = none) :
    Fn0 Tryz.prog 215 #[str s, str [c]] (.tuple #[str s, str [], .bool false]) := by
  refine M_ Tryz.func215 rfl rfl Tryz.ntmps215 rfl fun v0 => ?_
  refine f_ (c_ (a_ (g_ rfl) rfl (a_ (g_ rfl) rfl (a_ (g_ rfl) rfl (d_ (b_ rfl (f_ (f_ (c_ ?_)))))))))
  refine a_ (h_ rfl) rfl (a_ (h_ rfl) rfl (Q_ (lz_ s c hk) rfl (.refl _) (fun _ _ _ => trivial) rfl fun _ => ?_))
  refine a_ (g_ rfl) rfl (d_ (b_ rfl (f_ (c_ (a_ (h_ rfl) rfl (x_ (dI_ rfl rfl) rfl fun r1 hr1 => ?_))))))
  refine d_ (b_ rfl ?_)
  cases r1
  · skip
    replace hr1 := of_decide_eq_false hr1
    refine p_ rfl (A_ (b_ rfl (f_ (c_ (a_ (h_ rfl) rfl (a_ (g_ rfl) rfl (a_ (g_ rfl) rfl (a_ (g_ rfl) rfl (d_ ?_)))))))))
    refine b_ rfl (B_ ?_)
    exact rM_ Tryz.results215 () rfl rfl rfl rfl (.refl _) (fun _ _ _ => trivial)
  · skip
    replace hr1 := of_decide_eq_true hr1
    exact absurd hr1 (by decide)
theorem pI_ (s : Str) (c : UInt8) (k : Nat) (hk : ixS c s = some k) (hl : k < s.length) (hs : s.length ≤ 140737488351232) :
    Fn0 Tryz.prog 215 #[str s, str [c]] (.tuple #[str (s.take k), str (s.drop (k + 1)), .bool true]) := by
  refine M_ Tryz.func215 rfl rfl Tryz.ntmps215 rfl fun v0 => ?_
  refine f_ (c_ (a_ (g_ rfl) rfl (a_ (g_ rfl) rfl (a_ (g_ rfl) rfl (d_ (b_ rfl (f_ (f_ (c_ ?_)))))))))
  refine a_ (h_ rfl) rfl (a_ (h_ rfl) rfl (Q_ (ly_ s c k hk) rfl (.refl _) (fun _ _ _ => trivial) rfl fun _ => ?_))
  refine a_ (g_ rfl) rfl (d_ (b_ rfl (f_ (c_ (a_ (h_ rfl) rfl (x_ (dI_ rfl rfl) rfl fun r1 hr1 => ?_))))))
  refine d_ (b_ rfl ?_)
  cases r1
  · skip
    replace hr1 := of_decide_eq_false hr1
    exact absurd (by omega) hr1
  · skip
    replace hr1 := of_decide_eq_true hr1
    refine n_ rfl (f_ ?_)
    refine aN_ (by kernel_rfl) ?_
    refine ad_ 0 [0, 1, 2, 3, 4, 5, 6, 7, 8, 9, 10, 11] (by kernel_rfl) (fun _ a b => ⟨a, b⟩) (k_ rfl (h_ rfl) rfl (k_ rfl (h_ rfl) rfl (k_ rfl (fg_ (i := 0) (j := k) (kl := .i64) ar_ rfl rfl rfl (by omega) (by omega)) rfl (k_ rfl (h_ rfl) rfl (k_ rfl (h_ rfl) rfl (k_ rfl (h_ rfl) rfl (k_ rfl (co_ ar_ rfl) rfl (k_ rfl (V_ rfl rfl rfl (aq_ (by simp only [List.length_cons, List.length_nil]; omega) (by simp only [List.length_cons, List.length_nil]; omega))) rfl (k_ rfl (fg_ (i := k + 1) (j := s.length) (kh := .i64) ar_ rfl rfl rfl (by omega) (by omega)) rfl ?_)))))))))
    refine k_ rfl (g_ rfl) rfl (k_ rfl (g_ rfl) rfl (k_ rfl (g_ rfl) rfl (ac_ (ab_ (by kernel_rfl) (b_ rfl (B_ ?_))))))
    exact rM_ Tryz.results215 () rfl rfl rfl (by simp [List.take_of_length_le]) (.refl _) (fun _ _ _ => trivial)
theorem rb_ (s : Str) (c : UInt8) (hk : ixS c s = none) :
    Fn0 Tryz.prog 198 #[str s, str [c]] (.tuple #[str s, str [], .bool false]) := by
  refine M_ Tryz.func198 rfl rfl Tryz.ntmps198 rfl fun v0 => ?_
  refine f_ (c_ (a_ (g_ rfl) rfl (a_ (g_ rfl) rfl (a_ (g_ rfl) rfl (d_ (b_ rfl (f_ (c_ (a_ (h_ rfl) rfl ?_)))))))))
  refine a_ (h_ rfl) rfl (Q_ (pJ_ s c hk) rfl (.refl _) (fun _ _ _ => trivial) rfl fun _ => ?_)
  refine a_ (ae_ rfl rfl) rfl (a_ (ae_ rfl rfl) rfl (a_ (ae_ rfl rfl) rfl (a_ (g_ rfl) rfl (a_ (g_ rfl) rfl (a_ (g_ rfl) rfl (d_ (b_ rfl (B_ ?_))))))))
  exact rM_ Tryz.results198 () rfl rfl rfl rfl (.refl _) (fun _ _ _ => trivial)
theorem lu_ (s : Str) (hk : ixS 58 s = none) :
    Fn0 Tryz.prog 176 #[str s] (.bool (bL_ s)) := by
  refine M_ Tryz.func176 rfl rfl Tryz.ntmps176 rfl fun v0 => ?_
  refine f_ (c_ (a_ (g_ rfl) rfl (d_ (b_ rfl (f_ (f_ (c_ (a_ (h_ rfl) rfl (a_ (co_ ar_ rfl) rfl ?_)))))))))
  refine x_ (bK_ rfl rfl) rfl fun r1 hr1 => ?_
  refine d_ (b_ rfl ?_)
  cases r1
  · skip
    replace hr1 := of_decide_eq_false hr1
    refine p_ rfl (A_ (b_ rfl (f_ (c_ (a_ (h_ rfl) rfl (Q_ (rb_ s 58 hk) rfl (.refl _) (fun _ _ _ => trivial) rfl fun _ => ?_))))))
    refine a_ (h_ rfl) rfl (a_ (ae_ rfl rfl) rfl (a_ (ae_ rfl rfl) rfl (a_ (ae_ rfl rfl) rfl (a_ (g_ rfl) rfl (a_ (g_ rfl) rfl (a_ (g_ rfl) rfl (d_ (b_ rfl (f_ ?_)))))))))
    refine c_ (a_ (h_ rfl) rfl (ax_ (jW_ _ (by first | omega | (simp; omega))) rfl (.refl _) (fun _ _ _ => trivial) rfl fun r2 hr2 => ?_))
    refine a_ (h_ rfl) rfl ?_
    cases r2
    · skip
      refine t_ rfl rfl rfl rfl (t_ rfl rfl rfl rfl (t_ rfl rfl rfl rfl (t_ rfl rfl rfl rfl (t_ rfl rfl rfl rfl (t_ rfl rfl rfl rfl (a_ (N_ rfl rfl) rfl (a_ (g_ rfl) rfl (d_ (b_ rfl ?_)))))))))
      refine B_ ?_
      exact as_ is_ () (E_ rfl (by simp [bL_, *] <;> omega)) (.refl _) (fun _ _ _ => trivial)
    · skip
      refine o_ rfl rfl (a_ (h_ rfl) rfl (o_ rfl rfl (a_ (bG_ rfl) rfl (o_ rfl rfl (a_ (h_ rfl) rfl (t_ rfl rfl rfl rfl (t_ rfl rfl rfl rfl (o_ rfl rfl (a_ (R_ rfl rfl) rfl ?_)))))))))
      refine a_ (R_ rfl rfl) rfl (a_ (g_ rfl) rfl (d_ (b_ rfl (B_ ?_))))
      exact as_ is_ () (E_ rfl (by simp [bL_, *] <;> omega)) (.refl _) (fun _ _ _ => trivial)
  · skip
    replace hr1 := of_decide_eq_true hr1
    refine n_ rfl (f_ (c_ (a_ (g_ rfl) rfl (d_ (b_ rfl (B_ ?_))))))
    exact as_ is_ () (E_ rfl (by simp [bL_, *] <;> omega)) (.refl _) (fun _ _ _ => trivial)
theorem ra_ (s : Str) (c : UInt8) (k : Nat) (hk : ixS c s = some k) (hl : k < s.length) (hs : s.length ≤ 140737488351232) :
    Fn0 Tryz.prog 198 #[str s, str [c]] (.tuple #[str (s.take k), str (s.drop (k + 1)), .bool true]) := by
  refine M_ Tryz.func198 rfl rfl Tryz.ntmps198 rfl fun v0 => ?_
  refine f_ (c_ (a_ (g_ rfl) rfl (a_ (g_ rfl) rfl (a_ (g_ rfl) rfl (d_ (b_ rfl (f_ (c_ (a_ (h_ rfl) rfl ?_)))))))))
  refine a_ (h_ rfl) rfl (Q_ (pI_ s c k hk hl hs) rfl (.refl _) (fun _ _ _ => trivial) rfl fun _ => ?_)
  refine a_ (ae_ rfl rfl) rfl (a_ (ae_ rfl rfl) rfl (a_ (ae_ rfl rfl) rfl (a_ (g_ rfl) rfl (a_ (g_ rfl) rfl (a_ (g_ rfl) rfl (d_ (b_ rfl (B_ ?_))))))))
  exact rM_ Tryz.results198 () rfl rfl rfl rfl (.refl _) (fun _ _ _ => trivial)
theorem lt_ (s : Str) (k : Nat) (hk : ixS 58 s = some k) (hl : k < s.length) :
    Fn0 Tryz.prog 176 #[str s] (.bool (bL_ s)) := by
  refine M_ Tryz.func176 rfl rfl Tryz.ntmps176 rfl fun v0 => ?_
  refine f_ (c_ (a_ (g_ rfl) rfl (d_ (b_ rfl (f_ (f_ (c_ (a_ (h_ rfl) rfl (a_ (co_ ar_ rfl) rfl ?_)))))))))
  refine x_ (bK_ rfl rfl) rfl fun r1 hr1 => ?_
  refine d_ (b_ rfl ?_)
  cases r1
  · skip
    replace hr1 := of_decide_eq_false hr1
    refine p_ rfl (A_ (b_ rfl (f_ (c_ (a_ (h_ rfl) rfl (Q_ (ra_ s 58 k hk hl (by omega)) rfl (.refl _) (fun _ _ _ => trivial) rfl fun _ => ?_))))))
    refine a_ (h_ rfl) rfl (a_ (ae_ rfl rfl) rfl (a_ (ae_ rfl rfl) rfl (a_ (ae_ rfl rfl) rfl (a_ (g_ rfl) rfl (a_ (g_ rfl) rfl (a_ (g_ rfl) rfl (d_ (b_ rfl (f_ ?_)))))))))
    refine c_ (a_ (h_ rfl) rfl (ax_ (jW_ _ (by first | omega | (simp; omega))) rfl (.refl _) (fun _ _ _ => trivial) rfl fun r2 hr2 => ?_))
    refine a_ (h_ rfl) rfl ?_
    cases r2
    · skip
      refine t_ rfl rfl rfl rfl (t_ rfl rfl rfl rfl (t_ rfl rfl rfl rfl (t_ rfl rfl rfl rfl (t_ rfl rfl rfl rfl (t_ rfl rfl rfl rfl (a_ (N_ rfl rfl) rfl (a_ (g_ rfl) rfl (d_ (b_ rfl ?_)))))))))
      refine B_ ?_
      exact as_ is_ () (E_ rfl (by simp [bL_, *] <;> omega)) (.refl _) (fun _ _ _ => trivial)
    · skip
      refine o_ rfl rfl (a_ (h_ rfl) rfl (o_ rfl rfl (a_ (bG_ rfl) rfl (o_ rfl rfl (a_ (h_ rfl) rfl (o_ rfl rfl (a_ (h_ rfl) rfl (o_ rfl rfl (ax_ (jW_ _ (by first | omega | (simp; omega))) rfl (.refl _) (fun _ _ _ => trivial) rfl fun r3 hr3 => ?_)))))))))
      refine o_ rfl rfl (a_ (N_ rfl rfl) rfl (a_ (R_ rfl rfl) rfl (a_ (g_ rfl) rfl (d_ (b_ rfl (B_ ?_))))))
      exact as_ is_ () (E_ rfl (by simp [bL_, *] <;> omega)) (.refl _) (fun _ _ _ => trivial)
  · skip
    replace hr1 := of_decide_eq_true hr1
    refine n_ rfl (f_ (c_ (a_ (g_ rfl) rfl (d_ (b_ rfl (B_ ?_))))))
    exact as_ is_ () (E_ rfl (by simp [bL_, *] <;> omega)) (.refl _) (fun _ _ _ => trivial)
theorem fN_ (s : Str) : Fn0 Tryz.prog 176 #[str s] (.bool (bL_ s)) := by
  cases hk : ixS 58 s with
  | none => exact lu_ s hk
  | some k => exact lt_ s k hk (nR_ hk)
theorem gV_ (s : Str) (hs : s.length ≤ 140737488351232) :
    Fn0 Tryz.prog 164 #[str s] (.int .i64 (if bi_ s then 0 else 20)) := by
  refine M_ Tryz.func164 rfl rfl Tryz.ntmps164 rfl fun v0 => ?_
  refine f_ (c_ (a_ (g_ rfl) rfl (d_ (b_ rfl (f_ (f_ (c_ (a_ (h_ rfl) rfl (ax_ (fN_ _) rfl (.refl _) (fun _ _ _ => trivial) rfl fun r1 hr1 => ?_)))))))))
  refine a_ (h_ rfl) rfl ?_
  cases r1
  · skip
    refine o_ rfl rfl (a_ (h_ rfl) rfl (o_ rfl rfl (ax_ (gm_ _ hs) rfl (.refl _) (fun _ _ _ => trivial) rfl fun r2 hr2 => ?_)))
    refine a_ (N_ rfl rfl) rfl (d_ (b_ rfl ?_))
    cases r2
    · skip
      refine p_ rfl (A_ (b_ rfl (f_ (c_ (a_ (g_ rfl) rfl (d_ (b_ rfl (B_ ?_))))))))
      exact as_ Tryz.results164 () (aJ_ rfl (by simp [bi_, *])) (.refl _) (fun _ _ _ => trivial)
    · skip
      refine n_ rfl (f_ (c_ (a_ (g_ rfl) rfl (d_ (b_ rfl (B_ ?_))))))
      exact as_ Tryz.results164 () (aJ_ rfl (by simp [bi_, *])) (.refl _) (fun _ _ _ => trivial)
  · skip
    refine t_ rfl rfl rfl rfl (t_ rfl rfl rfl rfl (a_ (R_ rfl rfl) rfl (d_ (b_ rfl (n_ rfl (f_ (c_ (a_ (g_ rfl) rfl (d_ ?_)))))))))
    refine b_ rfl (B_ ?_)
    exact as_ Tryz.results164 () (aJ_ rfl (by simp [bi_, *])) (.refl _) (fun _ _ _ => trivial)
theorem ec_ (s : Str) (hs : s.length ≤ 140737488351232) :
    Fn0 Tryz.prog 126 #[str s] (.bool (bi_ s)) := by
  refine M_ Tryz.func126 rfl rfl Tryz.ntmps126 rfl fun v0 => ?_
  refine f_ (c_ (a_ (g_ rfl) rfl (d_ (b_ rfl (f_ (c_ (a_ (h_ rfl) rfl (Q_ (gV_ s hs) rfl (.refl _) (fun _ _ _ => trivial) rfl fun _ => ?_))))))))
  refine x_ (aA_ rfl rfl) rfl fun r1 hr1 => ?_
  refine a_ (g_ rfl) rfl (d_ (b_ rfl (B_ ?_)))
  exact as_ Tryz.results126 () (E_ rfl (by subst_vars; cases bi_ s <;> rfl)) (.refl _) (fun _ _ _ => trivial)
end Go.Proofs.YtpdbbglpbngeiaaGreatDoor
namespace Go.Proofs.YtpdbbglpbngeiaaGreatDoor
open Go Go.Sx Go.Proofs
attribute [local irreducible] Code.wp wpList wpAnyH
open Go.Vs
theorem fits_c : ∀ (m : Nat) (c : Con), c.sz ≤ m → c.ok → ∀ (d n bs : Nat), d ≤ 9 → n ≤ 64 → ∀ r, c.fits d n = r →
  Tri Tryz.prog 177 #[c.val, .int .i64 (d : Int), zp_ bs 0] [(bs, .cells #[.int .i64 (n : Int)] 3 (0, 0))] [c.memF] (fun _ : Unit => .bool r.1) (fun _ => [(bs, .cells #[.int .i64 (r.2 : Int)] 3 (0, 0))]) (fun _ => []) := by
 intro m
 induction m with
 | zero => intro c h; have := c.sz_pos; omega
 | succ m ih =>
  intro c hm hok d n bs hd hn r hr
  obtain ⟨k, nm, lo, hi, ad, cap, ps⟩ := c
  have hlen := Con.ok_len hok
  simp only [Con.parts, Con.cap] at hlen
  refine M_ Tryz.func177 rfl rfl Tryz.ntmps177 rfl fun v0 => ?_
  refine f_ (c_ (aF_ rfl rfl fun b1 => ?_))
  refine a_ (g_ rfl) rfl (d_ (b_ rfl (f_ (c_ (a_ (h_ rfl) rfl (a_ (af_ rfl) rfl (a_ (q_ 1 J_ rfl rfl rfl) rfl (a_ (V_ rfl rfl rfl (aq_ (by omega) (by omega))) rfl (a_ (af_ rfl) rfl ?_)))))))))
  refine Z_ 1 H_ rfl rfl rfl rfl rfl rfl (d_ (b_ rfl (f_ (f_ (c_ (a_ (h_ rfl) rfl (x_ (bK_ rfl rfl) rfl fun r1 hr1 => ?_)))))))
  refine a_ (h_ rfl) rfl ?_
  cases r1
  ·
   replace hr1 := of_decide_eq_false hr1
   try dsimp only [Con.kind, Con.parts, Con.name, Con.lo, Con.hi, Con.cap, Con.ad] at hr1
   refine o_ rfl rfl (a_ (h_ rfl) rfl (o_ rfl rfl (a_ (af_ rfl) rfl (o_ rfl rfl (a_ (q_ 1 J_ rfl rfl rfl) rfl (o_ rfl rfl (x_ (bK_ rfl rfl) rfl fun r2 hr2 => ?_)))))))
   refine a_ (N_ rfl rfl) rfl (d_ (b_ rfl ?_))
   cases r2
   ·
    replace hr2 := of_decide_eq_false hr2
    try dsimp only [Con.kind, Con.parts, Con.name, Con.lo, Con.hi, Con.cap, Con.ad] at hr2
    have hc0 : ¬ (8 < d ∨ 64 < n + 1) := by omega
    refine p_ rfl (A_ (b_ rfl (f_ (f_ (c_ (a_ (j_ K_ rfl rfl rfl bw_) rfl (a_ (q_ 0 bM_ rfl rfl rfl) rfl (a_ (ah_ av_ rfl) rfl (a_ (h_ rfl) rfl ?_)))))))))
    refine d_ (b_ rfl (S_ (bS_ [(1, .int .i64 (d : Int)), (2, zp_ bs 0), (23, .slice ad ps.length cap), (24, .int .i64 (ps.length : Int)), (25, .int .i64 ((0 : Nat) : Int))] ⟨rfl, rfl, rfl, rfl, rfl, trivial⟩ ?_)))
    refine bY_ (ι := {q : Nat × Nat // q.1 ≤ ps.length ∧ Con.fits.fitss (ps.take q.1) (d + 1) (n + 1) = (true, q.2) ∧ q.2 ≤ 64}) (fun i => [(1, .int .i64 (d : Int)), (2, zp_ bs 0), (23, .slice ad ps.length cap), (24, .int .i64 (ps.length : Int)), (25, .int .i64 (i.1.1 : Int))]) (fun i => [_, (bs, .cells #[.int .i64 (i.1.2 : Int)] 3 (0, 0))]) (fun _ => _) (fun i => ps.length - i.1.1) ⟨(0, n + 1), by simp [Con.fits.fitss]; omega⟩ ?_
    rintro ⟨⟨i, m1⟩, hk⟩
    refine bS_ [(1, .int .i64 (d : Int)), (2, zp_ bs 0), (23, .slice ad ps.length cap), (24, .int .i64 (ps.length : Int)), (25, .int .i64 (i : Int))] ⟨rfl, rfl, rfl, rfl, rfl, trivial⟩ ?_
    refine f_ (c_ (x_ (az_ rfl rfl) rfl fun r3 hr3 => ?_))
    refine d_ (b_ rfl (f_ ?_))
    cases r3
    ·
     replace hr3 := of_decide_eq_false hr3
     try dsimp only [Con.kind, Con.parts, Con.name, Con.lo, Con.hi, Con.cap, Con.ad] at hr3
     refine p_ rfl (aD_ rfl (b_ rfl (f_ (c_ (a_ (g_ rfl) rfl (d_ (b_ rfl (B_ ?_))))))))
     obtain rfl : r = (true, m1) := by rw [← hr]; exact Con.fits_yes hc0 (by omega) hk.2.1
     exact as_ Tryz.results177 () rfl (eV_ (i := 1) rfl) (fun _ _ _ => trivial)
    ·
     replace hr3 := of_decide_eq_true hr3
     try dsimp only [Con.kind, Con.parts, Con.name, Con.lo, Con.hi, Con.cap, Con.ad] at hr3
     have hlt : i < ps.length := by omega
     obtain ⟨p, hp⟩ : ∃ p, ps[i]? = some p := ⟨_, List.getElem?_eq_getElem hlt⟩
     have hpm : p ∈ ps := List.mem_of_getElem? hp
     refine n_ rfl (A_ (b_ rfl (f_ (S_ (f_ (c_ (a_ (ak_ av_ v_ rfl rfl (fun v _ h => Con.row_addr (c := .mk k nm lo hi ad cap ps) h.1 hp) (by omega) (by omega)) rfl (a_ (aE_ (us := p.cells) T_ v_ rfl (fun v _ h => ((Con.mem_iff (.mk k nm lo hi ad cap ps) v).1 h.1).1) p.cells_len (Con.part_cells (c := .mk k nm lo hi ad cap ps) (i := i) hp)) rfl (al_ eb_ rfl fun b2 => ?_)))))))))
     refine eE_ 0 v_ rfl rfl rfl rfl (d_ (b_ rfl (f_ (c_ (a_ (dc_ 0 T_ v_ rfl rfl) rfl (a_ (h_ rfl) rfl (a_ (V_ rfl rfl rfl (aq_ (by omega) (by omega))) rfl (a_ (h_ rfl) rfl (jH_ 2 (ih p (by have := Con.sz_part (c := .mk k nm lo hi ad cap ps) hpm; omega) (Con.ok_part (c := .mk k nm lo hi ad cap ps) hok hpm) (d + 1) m1 bs (by omega) hk.2.2 _ rfl) rfl rfl (fun v _ h => ⟨Con.mem_part (c := .mk k nm lo hi ad cap ps) h.1 hpm, trivial⟩) rfl fun r4 hr4 => ?_)))))))))
     refine a_ (bG_ rfl) rfl (d_ (b_ rfl ?_))
     cases r4
     ·
      try dsimp only [Con.kind, Con.parts, Con.name, Con.lo, Con.hi, Con.cap, Con.ad] at hr4
      refine n_ rfl (f_ (c_ (a_ (g_ rfl) rfl (d_ (b_ rfl (B_ ?_))))))
      obtain rfl : r = (false, (p.fits (d + 1) m1).2) := by rw [← hr]; exact Con.fits_no hc0 hp hk.2.1 (by assumption)
      exact as_ Tryz.results177 () rfl (eV_ (i := 2) rfl) (fun _ _ _ => trivial)
     ·
      try dsimp only [Con.kind, Con.parts, Con.name, Con.lo, Con.hi, Con.cap, Con.ad] at hr4
      refine p_ rfl (A_ (b_ rfl (c_ (a_ (V_ rfl rfl rfl (aq_ (by omega) (by omega))) rfl (a_ (h_ rfl) rfl (d_ (r_ rfl ?_)))))))
      exact ao_ ⟨(i + 1, (p.fits (d + 1) m1).2), hlt, Con.fitss_step hp hk.2.1 (by assumption)⟩ (by simp; omega) ⟨rfl, rfl, rfl, rfl, rfl, trivial⟩ (@List.perm_append_comm _ [_] _) (fun _ _ h => h)
   ·
    replace hr2 := of_decide_eq_true hr2
    try dsimp only [Con.kind, Con.parts, Con.name, Con.lo, Con.hi, Con.cap, Con.ad] at hr2
    refine n_ rfl (f_ (c_ (a_ (g_ rfl) rfl (d_ (b_ rfl (B_ ?_))))))
    obtain rfl : r = (false, n + 1) := by rw [← hr, Con.fits_eq]; simp <;> omega
    exact as_ Tryz.results177 () rfl (eV_ (i := 1) rfl) (fun _ _ _ => trivial)
  ·
   replace hr1 := of_decide_eq_true hr1
   try dsimp only [Con.kind, Con.parts, Con.name, Con.lo, Con.hi, Con.cap, Con.ad] at hr1
   refine t_ rfl rfl rfl rfl (t_ rfl rfl rfl rfl (t_ rfl rfl rfl rfl (t_ rfl rfl rfl rfl (a_ (R_ rfl rfl) rfl (d_ (b_ rfl (n_ rfl (f_ (c_ ?_)))))))))
   refine a_ (g_ rfl) rfl (d_ (b_ rfl (B_ ?_)))
   obtain rfl : r = (false, n + 1) := by rw [← hr, Con.fits_eq]; simp <;> omega
   exact as_ Tryz.results177 () rfl (eV_ (i := 1) rfl) (fun _ _ _ => trivial)
end Go.Proofs.YtpdbbglpbngeiaaGreatDoor
namespace Go.Proofs.YtpdbbglpbngeiaaGreatDoor
open Go Go.Sx Go.Proofs
attribute [local irreducible] Code.wp wpList wpAnyH
open Go.Vs
def ov_ (v : Vw) : Prop := v.sl ∧ v.im 6 ∧ ∃ T fz, v.w.heap[6]? = some (.cells (Lib.pow10Tab.map fun z => Value.int .u64 z).toArray T fz)
theorem nF_ {v v' : Vw} (h : v.le v') (hp : ov_ v) : ov_ v' := by
  obtain ⟨h0, h1, T, fz, h2⟩ := hp
  exact ⟨by rw [h.sl]; exact h0, h.imUp _ h1, T, fz, by rw [h.block _ h1]; exact h2⟩
theorem pj_ {v : Vw} (hp : ov_ v) : Lib.TabIs Tryz.prog v.w "internal/strconv.uint64pow10" .u64 Lib.pow10Tab := by
  obtain ⟨_, h1, T, fz, h2⟩ := hp
  have hg : Tryz.prog.globalNamed "internal/strconv.uint64pow10" = some 6 := by kernel_rfl
  simp only [Lib.TabIs, World.var?, hg, Option.bind_some, h2]
def dB_ : Fct where
  p := fun v => ca_ v (some ⟨3, 0, none⟩) (el_.flatMap oB_) ∧ ca_ v (some ⟨1, 0, none⟩) (pZ_.flatMap Use.cells) ∧ ca_ v (some ⟨0, 0, none⟩) (fq_.flatMap NUse.cells) ∧ ov_ v
  mono := fun v v' h hp => ⟨(aS_ _ _).mono v v' h hp.1, (aS_ _ _).mono v v' h hp.2.1, (aS_ _ _).mono v v' h hp.2.2.1, nF_ h hp.2.2.2⟩
def gB_ : Fct := aS_ (some ⟨0, 0, none⟩) (fq_.flatMap NUse.cells)
end Go.Proofs.YtpdbbglpbngeiaaGreatDoor
namespace Go.Proofs.YtpdbbglpbngeiaaGreatDoor
open Go Go.Sx Go.Proofs
attribute [local irreducible] Code.wp wpList wpAnyH
open Go.Vs
theorem kx_ (c : Con) (hok : c.ok) : Tri Tryz.prog 179 #[c.val] [] [dB_] (fun _ : Unit => .int .i64 c.fieldErr) (fun _ => []) (fun _ => []) := by
 obtain ⟨k, nm, lo, hi, ad, cap, ps⟩ := c
 have hlen := Con.ok_len hok
 simp only [Con.parts, Con.cap] at hlen
 refine M_ Tryz.func179 rfl rfl Tryz.ntmps179 rfl fun v0 => ?_
 refine f_ (c_ (aF_ rfl rfl fun b1 => ?_))
 refine a_ (g_ rfl) rfl (d_ (b_ rfl (f_ (f_ (c_ (a_ (j_ K_ rfl rfl rfl H_) rfl (a_ (q_ 0 J_ rfl rfl rfl) rfl (x_ (az_ rfl rfl) rfl fun r1 hr1 => ?_))))))))
 refine a_ (h_ rfl) rfl ?_
 refine aT_ 4 ((decide (k < 1)) || (decide (7 < k))) (fun r => [(0, .agg #[.int .i64 k, str nm, .int .i64 lo, .int .i64 hi, .slice ad ps.length cap]), (1, zp_ b1 0), (2, .int .i64 0), (11, .bool r)]) ?_ fun r2 hr2 => ?_
 ·
  cases r1
  ·
   have qr2 := hr1
   replace hr1 := of_decide_eq_false hr1
   try dsimp only [Con.kind, Con.parts, Con.name, Con.lo, Con.hi, Con.cap, Con.ad] at hr1
   refine o_ rfl rfl (a_ (j_ K_ rfl rfl rfl H_) rfl (o_ rfl rfl (a_ (q_ 0 J_ rfl rfl rfl) rfl (o_ rfl rfl (x_ (bK_ rfl rfl) rfl fun r3 hr3 => ?_)))))
   refine a_ (N_ rfl rfl) rfl (d_ (r_ rfl ?_))
   exact met ⟨rfl, rfl, rfl, (E_ rfl (jof qr2 hr3)), trivial⟩
  ·
   have qr2 := hr1
   replace hr1 := of_decide_eq_true hr1
   try dsimp only [Con.kind, Con.parts, Con.name, Con.lo, Con.hi, Con.cap, Con.ad] at hr1
   refine t_ rfl rfl rfl rfl (t_ rfl rfl rfl rfl (t_ rfl rfl rfl rfl (a_ (R_ rfl rfl) rfl (d_ (r_ rfl ?_)))))
   exact met ⟨rfl, rfl, rfl, (E_ rfl (jot qr2)), trivial⟩
 ·
  refine d_ (b_ rfl ?_)
  cases r2
  ·
   simp at hr2
   try dsimp only [Con.kind, Con.parts, Con.name, Con.lo, Con.hi, Con.cap, Con.ad] at hr2
   obtain ⟨x, hx⟩ : ∃ x, el_[k.toNat]? = some x := ⟨_, List.getElem?_eq_getElem (show k.toNat < 8 by omega)⟩
   have hnd : nd k = x := by simp [nd, hx]
   obtain ⟨x1, x2, x3, xb⟩ := x
   refine p_ rfl (A_ (b_ rfl (f_ (c_ (a_ (j_ K_ rfl rfl rfl H_) rfl (a_ (q_ 0 J_ rfl rfl rfl) rfl (a_ (ei_ Tryz.runUnderlying219 Tryz.sizeOf218 rfl rfl (by show (0 : Int) ≤ k; omega) (by show k < (8 : Int); omega)) rfl ?_)))))))
   refine a_ (aE_ (ad := some ⟨3, 0, none⟩) (k := k.toNat * 4) (us := oB_ (x1, x2, x3, xb)) Tryz.isAgg218 Tryz.sizeOf218 rfl (fun v _ h => h.1.1) (iu_ _) (fun j y hj => by rw [iB_ oB_ 4 iu_ el_ k.toNat j _ hx (by have := (List.getElem?_eq_some_iff.1 hj).1; rwa [iu_] at this)]; exact hj)) rfl ?_
   refine al_ Tryz.zeroValue218 rfl fun b2 => ?_
   refine Z_ 0 Tryz.sizeOf218 rfl rfl rfl rfl rfl rfl (d_ (b_ rfl (f_ (f_ (c_ (a_ (j_ K_ rfl rfl rfl bw_) rfl (a_ (q_ 1 bM_ rfl rfl rfl) rfl (a_ (ah_ av_ rfl) rfl (a_ (j_ dh_ rfl rfl rfl H_) rfl ?_)))))))))
   refine a_ (q_ 0 J_ rfl rfl rfl) rfl (x_ (az_ rfl rfl) rfl fun r4 hr4 => ?_)
   refine a_ (h_ rfl) rfl ?_
   refine aT_ 7 ((decide ((ps.length : Int) < x2)) || (decide (x3 < (ps.length : Int)))) (fun r => [(0, .agg #[.int .i64 k, str nm, .int .i64 lo, .int .i64 hi, .slice ad ps.length cap]), (1, zp_ b1 0), (2, .int .i64 0), (11, .bool false), (12, zp_ b1 0), (13, .int .i64 k), (14, .pointer (some (rad (some ⟨3, 0, none⟩) (k.toNat * 4)))), (15, .agg #[.int .i64 x1, .int .i64 x2, .int .i64 x3, .bool xb]), (3, zp_ b2 0), (29, .bool r)]) ?_ fun r5 hr5 => ?_
   ·
    cases r4
    ·
     have qr5 := hr4
     replace hr4 := of_decide_eq_false hr4
     try dsimp only [Con.kind, Con.parts, Con.name, Con.lo, Con.hi, Con.cap, Con.ad] at hr4
     refine o_ rfl rfl (a_ (j_ K_ rfl rfl rfl bw_) rfl (o_ rfl rfl (a_ (q_ 1 bM_ rfl rfl rfl) rfl (o_ rfl rfl (a_ (ah_ av_ rfl) rfl (o_ rfl rfl (a_ (j_ dh_ rfl rfl rfl H_) rfl (o_ rfl rfl (a_ (q_ 0 J_ rfl rfl rfl) rfl ?_)))))))))
     refine o_ rfl rfl (x_ (bK_ rfl rfl) rfl fun r6 hr6 => ?_)
     refine a_ (N_ rfl rfl) rfl (d_ (r_ rfl ?_))
     exact met ⟨rfl, rfl, rfl, rfl, rfl, rfl, rfl, rfl, rfl, (E_ rfl (jof qr5 hr6)), trivial⟩
    ·
     have qr5 := hr4
     replace hr4 := of_decide_eq_true hr4
     try dsimp only [Con.kind, Con.parts, Con.name, Con.lo, Con.hi, Con.cap, Con.ad] at hr4
     refine t_ rfl rfl rfl rfl (t_ rfl rfl rfl rfl (t_ rfl rfl rfl rfl (t_ rfl rfl rfl rfl (t_ rfl rfl rfl rfl (t_ rfl rfl rfl rfl (a_ (R_ rfl rfl) rfl (d_ (r_ rfl ?_))))))))
     exact met ⟨rfl, rfl, rfl, rfl, rfl, rfl, rfl, rfl, rfl, (E_ rfl (jot qr5)), trivial⟩
   ·
    refine a_ (h_ rfl) rfl ?_
    refine aT_ 9 ((((decide ((ps.length : Int) < x2)) || (decide (x3 < (ps.length : Int))))) || (((x1 == 0) && (nm != [])))) (fun r => [(0, .agg #[.int .i64 k, str nm, .int .i64 lo, .int .i64 hi, .slice ad ps.length cap]), (1, zp_ b1 0), (2, .int .i64 0), (11, .bool false), (12, zp_ b1 0), (13, .int .i64 k), (14, .pointer (some (rad (some ⟨3, 0, none⟩) (k.toNat * 4)))), (15, .agg #[.int .i64 x1, .int .i64 x2, .int .i64 x3, .bool xb]), (3, zp_ b2 0), (39, .bool r)]) ?_ fun r7 hr7 => ?_
    ·
     cases r5
     ·
      have qr7 := hr5
      simp at hr5
      try dsimp only [Con.kind, Con.parts, Con.name, Con.lo, Con.hi, Con.cap, Con.ad] at hr5
      refine o_ rfl rfl (a_ (j_ dh_ rfl rfl rfl H_) rfl (o_ rfl rfl (a_ (q_ 0 J_ rfl rfl rfl) rfl (o_ rfl rfl (x_ (aA_ rfl rfl) rfl fun r8 hr8 => ?_)))))
      refine o_ rfl rfl (a_ (h_ rfl) rfl ?_)
      refine aT_ 4 ((x1 == 0) && (nm != [])) (fun r => [(0, .agg #[.int .i64 k, str nm, .int .i64 lo, .int .i64 hi, .slice ad ps.length cap]), (1, zp_ b1 0), (2, .int .i64 0), (11, .bool false), (12, zp_ b1 0), (13, .int .i64 k), (14, .pointer (some (rad (some ⟨3, 0, none⟩) (k.toNat * 4)))), (15, .agg #[.int .i64 x1, .int .i64 x2, .int .i64 x3, .bool xb]), (3, zp_ b2 0), (30, .bool false), (38, .bool r)]) ?_ fun r9 hr9 => ?_
      ·
       cases r8
       ·
        have qr9 := hr8
        replace hr8 := ne_of_beq_false hr8
        try dsimp only [Con.kind, Con.parts, Con.name, Con.lo, Con.hi, Con.cap, Con.ad] at hr8
        refine t_ rfl rfl rfl rfl (t_ rfl rfl rfl rfl (t_ rfl rfl rfl rfl (o_ rfl rfl (a_ (N_ rfl rfl) rfl (d_ (r_ rfl ?_))))))
        exact met ⟨rfl, rfl, rfl, rfl, rfl, rfl, rfl, rfl, rfl, rfl, (E_ rfl (jaf qr9)), trivial⟩
       ·
        have qr9 := hr8
        replace hr8 := eq_of_beq hr8
        try dsimp only [Con.kind, Con.parts, Con.name, Con.lo, Con.hi, Con.cap, Con.ad] at hr8
        refine o_ rfl rfl (a_ (j_ K_ rfl rfl rfl s_) rfl (o_ rfl rfl (a_ (q_ 1 w_ rfl rfl rfl) rfl (o_ rfl rfl (x_ (eI_ rfl rfl) rfl fun r10 hr10 => ?_)))))
        refine o_ rfl rfl (a_ (R_ rfl rfl) rfl (d_ (r_ rfl ?_)))
        exact met ⟨rfl, rfl, rfl, rfl, rfl, rfl, rfl, rfl, rfl, rfl, (E_ rfl (jat qr9 hr10)), trivial⟩
      ·
       refine a_ (N_ rfl rfl) rfl (d_ (r_ rfl ?_))
       exact met ⟨rfl, rfl, rfl, rfl, rfl, rfl, rfl, rfl, rfl, (E_ rfl (jof qr7 hr9)), trivial⟩
     ·
      have qr7 := hr5
      simp at hr5
      try dsimp only [Con.kind, Con.parts, Con.name, Con.lo, Con.hi, Con.cap, Con.ad] at hr5
      refine t_ rfl rfl rfl rfl (t_ rfl rfl rfl rfl (t_ rfl rfl rfl rfl (t_ rfl rfl rfl rfl (t_ rfl rfl rfl rfl (t_ rfl rfl rfl rfl (t_ rfl rfl rfl rfl (t_ rfl rfl rfl rfl (a_ (R_ rfl rfl) rfl (d_ ?_)))))))))
      refine r_ rfl ?_
      exact met ⟨rfl, rfl, rfl, rfl, rfl, rfl, rfl, rfl, rfl, (E_ rfl (jot qr7)), trivial⟩
    ·
     refine d_ (b_ rfl ?_)
     cases r7
     ·
      simp at hr7
      try dsimp only [Con.kind, Con.parts, Con.name, Con.lo, Con.hi, Con.cap, Con.ad] at hr7
      refine p_ rfl (A_ (b_ rfl (f_ (f_ (c_ (a_ (j_ dh_ rfl rfl rfl br_) rfl (a_ (q_ 0 bE_ rfl rfl rfl) rfl (d_ (b_ rfl ?_)))))))))
      cases xb
      ·
       try dsimp only [Con.kind, Con.parts, Con.name, Con.lo, Con.hi, Con.cap, Con.ad] at hxb
       refine p_ rfl (f_ (c_ (a_ (j_ K_ rfl rfl rfl H_) rfl (a_ (q_ 1 J_ rfl rfl rfl) rfl (x_ (bR_ rfl rfl) rfl fun r11 hr11 => ?_)))))
       refine a_ (h_ rfl) rfl ?_
       refine aT_ 4 ((lo != 0) || (hi != 0)) (fun r => [(0, .agg #[.int .i64 k, str nm, .int .i64 lo, .int .i64 hi, .slice ad ps.length cap]), (1, zp_ b1 0), (2, .int .i64 0), (11, .bool false), (12, zp_ b1 0), (13, .int .i64 k), (14, .pointer (some (rad (some ⟨3, 0, none⟩) (k.toNat * 4)))), (15, .agg #[.int .i64 x1, .int .i64 x2, .int .i64 x3, .bool false]), (3, zp_ b2 0), (39, .bool false), (40, zp_ b2 3), (41, .bool false), (64, .bool r)]) ?_ fun r12 hr12 => ?_
       ·
        cases r11
        ·
         have qr12 := hr11
         replace hr11 := bc_ hr11
         try dsimp only [Con.kind, Con.parts, Con.name, Con.lo, Con.hi, Con.cap, Con.ad] at hr11
         refine o_ rfl rfl (a_ (j_ K_ rfl rfl rfl H_) rfl (o_ rfl rfl (a_ (q_ 1 J_ rfl rfl rfl) rfl (o_ rfl rfl (x_ (bR_ rfl rfl) rfl fun r13 hr13 => ?_)))))
         refine a_ (N_ rfl rfl) rfl (d_ (r_ rfl ?_))
         exact met ⟨rfl, rfl, rfl, rfl, rfl, rfl, rfl, rfl, rfl, rfl, rfl, rfl, (E_ rfl (jof qr12 hr13)), trivial⟩
        ·
         have qr12 := hr11
         replace hr11 := bb_ hr11
         try dsimp only [Con.kind, Con.parts, Con.name, Con.lo, Con.hi, Con.cap, Con.ad] at hr11
         refine t_ rfl rfl rfl rfl (t_ rfl rfl rfl rfl (t_ rfl rfl rfl rfl (a_ (R_ rfl rfl) rfl (d_ (r_ rfl ?_)))))
         exact met ⟨rfl, rfl, rfl, rfl, rfl, rfl, rfl, rfl, rfl, rfl, rfl, rfl, (E_ rfl (jot qr12)), trivial⟩
       ·
        refine d_ (b_ rfl ?_)
        cases r12
        ·
         simp at hr12
         try dsimp only [Con.kind, Con.parts, Con.name, Con.lo, Con.hi, Con.cap, Con.ad] at hr12
         refine p_ rfl (A_ (b_ rfl (f_ (f_ (c_ (a_ (j_ dh_ rfl rfl rfl H_) rfl (a_ (q_ 0 J_ rfl rfl rfl) rfl (x_ (aA_ rfl rfl) rfl fun r14 hr14 => ?_))))))))
         refine a_ (h_ rfl) rfl ?_
         refine aT_ 4 ((x1 == 0) || (bL_ nm)) (fun r => [(0, .agg #[.int .i64 k, str nm, .int .i64 lo, .int .i64 hi, .slice ad ps.length cap]), (1, zp_ b1 0), (2, .int .i64 0), (11, .bool false), (12, zp_ b1 0), (13, .int .i64 k), (14, .pointer (some (rad (some ⟨3, 0, none⟩) (k.toNat * 4)))), (15, .agg #[.int .i64 x1, .int .i64 x2, .int .i64 x3, .bool false]), (3, zp_ b2 0), (39, .bool false), (40, zp_ b2 3), (41, .bool false), (64, .bool false), (72, .bool r)]) ?_ fun r15 hr15 => ?_
         ·
          cases r14
          ·
           have qr15 := hr14
           replace hr14 := ne_of_beq_false hr14
           try dsimp only [Con.kind, Con.parts, Con.name, Con.lo, Con.hi, Con.cap, Con.ad] at hr14
           refine o_ rfl rfl (a_ (j_ K_ rfl rfl rfl s_) rfl (o_ rfl rfl (a_ (q_ 1 w_ rfl rfl rfl) rfl (o_ rfl rfl (ax_ (fN_ nm) rfl (.refl _) (fun _ _ _ => trivial) rfl fun r16 hr16 => ?_)))))
           refine a_ (N_ rfl rfl) rfl (d_ (r_ rfl ?_))
           exact met ⟨rfl, rfl, rfl, rfl, rfl, rfl, rfl, rfl, rfl, rfl, rfl, rfl, rfl, (E_ rfl (jof qr15 hr16)), trivial⟩
          ·
           have qr15 := hr14
           replace hr14 := eq_of_beq hr14
           try dsimp only [Con.kind, Con.parts, Con.name, Con.lo, Con.hi, Con.cap, Con.ad] at hr14
           refine t_ rfl rfl rfl rfl (t_ rfl rfl rfl rfl (t_ rfl rfl rfl rfl (a_ (R_ rfl rfl) rfl (d_ (r_ rfl ?_)))))
           exact met ⟨rfl, rfl, rfl, rfl, rfl, rfl, rfl, rfl, rfl, rfl, rfl, rfl, rfl, (E_ rfl (jot qr15)), trivial⟩
         ·
          refine a_ (h_ rfl) rfl ?_
          refine aT_ 9 ((((x1 == 0) || (bL_ nm))) || (((x1 == 2) && (cU_ nm)))) (fun r => [(0, .agg #[.int .i64 k, str nm, .int .i64 lo, .int .i64 hi, .slice ad ps.length cap]), (1, zp_ b1 0), (2, .int .i64 0), (11, .bool false), (12, zp_ b1 0), (13, .int .i64 k), (14, .pointer (some (rad (some ⟨3, 0, none⟩) (k.toNat * 4)))), (15, .agg #[.int .i64 x1, .int .i64 x2, .int .i64 x3, .bool false]), (3, zp_ b2 0), (39, .bool false), (40, zp_ b2 3), (41, .bool false), (64, .bool false), (82, .bool r)]) ?_ fun r17 hr17 => ?_
          ·
           cases r15
           ·
            have qr17 := hr15
            simp at hr15
            try dsimp only [Con.kind, Con.parts, Con.name, Con.lo, Con.hi, Con.cap, Con.ad] at hr15
            refine o_ rfl rfl (a_ (j_ dh_ rfl rfl rfl H_) rfl (o_ rfl rfl (a_ (q_ 0 J_ rfl rfl rfl) rfl (o_ rfl rfl (x_ (aA_ rfl rfl) rfl fun r18 hr18 => ?_)))))
            refine o_ rfl rfl (a_ (h_ rfl) rfl ?_)
            refine aT_ 4 ((x1 == 2) && (cU_ nm)) (fun r => [(0, .agg #[.int .i64 k, str nm, .int .i64 lo, .int .i64 hi, .slice ad ps.length cap]), (1, zp_ b1 0), (2, .int .i64 0), (11, .bool false), (12, zp_ b1 0), (13, .int .i64 k), (14, .pointer (some (rad (some ⟨3, 0, none⟩) (k.toNat * 4)))), (15, .agg #[.int .i64 x1, .int .i64 x2, .int .i64 x3, .bool false]), (3, zp_ b2 0), (39, .bool false), (40, zp_ b2 3), (41, .bool false), (64, .bool false), (73, .bool false), (81, .bool r)]) ?_ fun r19 hr19 => ?_
            ·
             cases r18
             ·
              have qr19 := hr18
              replace hr18 := ne_of_beq_false hr18
              try dsimp only [Con.kind, Con.parts, Con.name, Con.lo, Con.hi, Con.cap, Con.ad] at hr18
              refine t_ rfl rfl rfl rfl (t_ rfl rfl rfl rfl (t_ rfl rfl rfl rfl (o_ rfl rfl (a_ (N_ rfl rfl) rfl (d_ (r_ rfl ?_))))))
              exact met ⟨rfl, rfl, rfl, rfl, rfl, rfl, rfl, rfl, rfl, rfl, rfl, rfl, rfl, rfl, (E_ rfl (jaf qr19)), trivial⟩
             ·
              have qr19 := hr18
              replace hr18 := eq_of_beq hr18
              try dsimp only [Con.kind, Con.parts, Con.name, Con.lo, Con.hi, Con.cap, Con.ad] at hr18
              refine o_ rfl rfl (a_ (j_ K_ rfl rfl rfl s_) rfl (o_ rfl rfl (a_ (q_ 1 w_ rfl rfl rfl) rfl (o_ rfl rfl (ax_ (gm_ nm (Con.ok_name hok)) rfl (.refl _) (fun _ _ _ => trivial) rfl fun r20 hr20 => ?_)))))
              refine o_ rfl rfl (a_ (R_ rfl rfl) rfl (d_ (r_ rfl ?_)))
              exact met ⟨rfl, rfl, rfl, rfl, rfl, rfl, rfl, rfl, rfl, rfl, rfl, rfl, rfl, rfl, (E_ rfl (jat qr19 hr20)), trivial⟩
            ·
             refine a_ (N_ rfl rfl) rfl (d_ (r_ rfl ?_))
             exact met ⟨rfl, rfl, rfl, rfl, rfl, rfl, rfl, rfl, rfl, rfl, rfl, rfl, rfl, (E_ rfl (jof qr17 hr19)), trivial⟩
           ·
            have qr17 := hr15
            simp at hr15
            try dsimp only [Con.kind, Con.parts, Con.name, Con.lo, Con.hi, Con.cap, Con.ad] at hr15
            refine t_ rfl rfl rfl rfl (t_ rfl rfl rfl rfl (t_ rfl rfl rfl rfl (t_ rfl rfl rfl rfl (t_ rfl rfl rfl rfl (t_ rfl rfl rfl rfl (t_ rfl rfl rfl rfl (t_ rfl rfl rfl rfl (a_ (R_ rfl rfl) rfl (d_ ?_)))))))))
            refine r_ rfl ?_
            exact met ⟨rfl, rfl, rfl, rfl, rfl, rfl, rfl, rfl, rfl, rfl, rfl, rfl, rfl, (E_ rfl (jot qr17)), trivial⟩
          ·
           refine d_ (b_ rfl ?_)
           cases r17
           ·
            simp at hr17
            try dsimp only [Con.kind, Con.parts, Con.name, Con.lo, Con.hi, Con.cap, Con.ad] at hr17
            refine p_ rfl (A_ (b_ rfl (f_ (c_ (a_ (g_ rfl) rfl (d_ (b_ rfl (B_ ?_))))))))
            exact as_ eJ_ () (aJ_ rfl (by unfold Con.fieldErr; simp only [Con.kind, Con.parts, Con.name, Con.lo, Con.hi]; simp only [hnd]; repeat (first | rfl | exact (if_pos (by omega)).symm | (rw [if_pos (by first | omega | (simp_all; done) | (simp_all; omega) | grind)]; first | done | rfl) | (rw [if_neg (by first | omega | (simp_all; done) | (simp_all; omega) | grind)])))) (.refl _) (fun _ _ _ => trivial)
           ·
            simp at hr17
            try dsimp only [Con.kind, Con.parts, Con.name, Con.lo, Con.hi, Con.cap, Con.ad] at hr17
            refine n_ rfl (f_ (c_ (a_ (g_ rfl) rfl (d_ (b_ rfl (B_ ?_))))))
            exact as_ eJ_ () (aJ_ rfl (by unfold Con.fieldErr; simp only [Con.kind, Con.parts, Con.name, Con.lo, Con.hi]; simp only [hnd]; repeat (first | rfl | exact (if_pos (by omega)).symm | (rw [if_pos (by first | omega | (simp_all; done) | (simp_all; omega) | grind)]; first | done | rfl) | (rw [if_neg (by first | omega | (simp_all; done) | (simp_all; omega) | grind)])))) (.refl _) (fun _ _ _ => trivial)
        ·
         simp at hr12
         try dsimp only [Con.kind, Con.parts, Con.name, Con.lo, Con.hi, Con.cap, Con.ad] at hr12
         refine n_ rfl (f_ (c_ (a_ (g_ rfl) rfl (d_ (b_ rfl (B_ ?_))))))
         exact as_ eJ_ () (aJ_ rfl (by unfold Con.fieldErr; simp only [Con.kind, Con.parts, Con.name, Con.lo, Con.hi]; simp only [hnd]; repeat (first | rfl | exact (if_pos (by omega)).symm | (rw [if_pos (by first | omega | (simp_all; done) | (simp_all; omega) | grind)]; first | done | rfl) | (rw [if_neg (by first | omega | (simp_all; done) | (simp_all; omega) | grind)])))) (.refl _) (fun _ _ _ => trivial)
      ·
       try dsimp only [Con.kind, Con.parts, Con.name, Con.lo, Con.hi, Con.cap, Con.ad] at hxb
       refine n_ rfl (f_ (c_ (a_ (j_ K_ rfl rfl rfl H_) rfl (a_ (q_ 1 J_ rfl rfl rfl) rfl (x_ (az_ rfl rfl) rfl fun r21 hr21 => ?_)))))
       refine a_ (h_ rfl) rfl ?_
       refine aT_ 6 ((decide (lo < (-1099511627776))) || (decide (hi < lo))) (fun r => [(0, .agg #[.int .i64 k, str nm, .int .i64 lo, .int .i64 hi, .slice ad ps.length cap]), (1, zp_ b1 0), (2, .int .i64 0), (11, .bool false), (12, zp_ b1 0), (13, .int .i64 k), (14, .pointer (some (rad (some ⟨3, 0, none⟩) (k.toNat * 4)))), (15, .agg #[.int .i64 x1, .int .i64 x2, .int .i64 x3, .bool true]), (3, zp_ b2 0), (39, .bool false), (40, zp_ b2 3), (41, .bool true), (51, .bool r)]) ?_ fun r22 hr22 => ?_
       ·
        cases r21
        ·
         have qr22 := hr21
         replace hr21 := of_decide_eq_false hr21
         try dsimp only [Con.kind, Con.parts, Con.name, Con.lo, Con.hi, Con.cap, Con.ad] at hr21
         refine o_ rfl rfl (a_ (j_ K_ rfl rfl rfl H_) rfl (o_ rfl rfl (a_ (q_ 1 J_ rfl rfl rfl) rfl (o_ rfl rfl (a_ (j_ K_ rfl rfl rfl H_) rfl (o_ rfl rfl (a_ (q_ 1 J_ rfl rfl rfl) rfl (o_ rfl rfl (x_ (bK_ rfl rfl) rfl fun r23 hr23 => ?_)))))))))
         refine a_ (N_ rfl rfl) rfl (d_ (r_ rfl ?_))
         exact met ⟨rfl, rfl, rfl, rfl, rfl, rfl, rfl, rfl, rfl, rfl, rfl, rfl, (E_ rfl (jof qr22 hr23)), trivial⟩
        ·
         have qr22 := hr21
         replace hr21 := of_decide_eq_true hr21
         try dsimp only [Con.kind, Con.parts, Con.name, Con.lo, Con.hi, Con.cap, Con.ad] at hr21
         refine t_ rfl rfl rfl rfl (t_ rfl rfl rfl rfl (t_ rfl rfl rfl rfl (t_ rfl rfl rfl rfl (t_ rfl rfl rfl rfl (a_ (R_ rfl rfl) rfl (d_ (r_ rfl ?_)))))))
         exact met ⟨rfl, rfl, rfl, rfl, rfl, rfl, rfl, rfl, rfl, rfl, rfl, rfl, (E_ rfl (jot qr22)), trivial⟩
       ·
        refine a_ (h_ rfl) rfl ?_
        refine aT_ 4 ((((decide (lo < (-1099511627776))) || (decide (hi < lo)))) || (decide (1099511627776 < hi))) (fun r => [(0, .agg #[.int .i64 k, str nm, .int .i64 lo, .int .i64 hi, .slice ad ps.length cap]), (1, zp_ b1 0), (2, .int .i64 0), (11, .bool false), (12, zp_ b1 0), (13, .int .i64 k), (14, .pointer (some (rad (some ⟨3, 0, none⟩) (k.toNat * 4)))), (15, .agg #[.int .i64 x1, .int .i64 x2, .int .i64 x3, .bool true]), (3, zp_ b2 0), (39, .bool false), (40, zp_ b2 3), (41, .bool true), (56, .bool r)]) ?_ fun r24 hr24 => ?_
        ·
         cases r22
         ·
          have qr24 := hr22
          simp at hr22
          try dsimp only [Con.kind, Con.parts, Con.name, Con.lo, Con.hi, Con.cap, Con.ad] at hr22
          refine o_ rfl rfl (a_ (j_ K_ rfl rfl rfl H_) rfl (o_ rfl rfl (a_ (q_ 1 J_ rfl rfl rfl) rfl (o_ rfl rfl (x_ (bK_ rfl rfl) rfl fun r25 hr25 => ?_)))))
          refine a_ (N_ rfl rfl) rfl (d_ (r_ rfl ?_))
          exact met ⟨rfl, rfl, rfl, rfl, rfl, rfl, rfl, rfl, rfl, rfl, rfl, rfl, (E_ rfl (jof qr24 hr25)), trivial⟩
         ·
          have qr24 := hr22
          simp at hr22
          try dsimp only [Con.kind, Con.parts, Con.name, Con.lo, Con.hi, Con.cap, Con.ad] at hr22
          refine t_ rfl rfl rfl rfl (t_ rfl rfl rfl rfl (t_ rfl rfl rfl rfl (a_ (R_ rfl rfl) rfl (d_ (r_ rfl ?_)))))
          exact met ⟨rfl, rfl, rfl, rfl, rfl, rfl, rfl, rfl, rfl, rfl, rfl, rfl, (E_ rfl (jot qr24)), trivial⟩
        ·
         refine d_ (b_ rfl ?_)
         cases r24
         ·
          simp at hr24
          try dsimp only [Con.kind, Con.parts, Con.name, Con.lo, Con.hi, Con.cap, Con.ad] at hr24
          refine p_ rfl (A_ (b_ rfl (f_ (f_ (c_ (a_ (j_ dh_ rfl rfl rfl H_) rfl (a_ (q_ 0 J_ rfl rfl rfl) rfl (x_ (aA_ rfl rfl) rfl fun r26 hr26 => ?_))))))))
          refine a_ (h_ rfl) rfl ?_
          refine aT_ 4 ((x1 == 0) || (bL_ nm)) (fun r => [(0, .agg #[.int .i64 k, str nm, .int .i64 lo, .int .i64 hi, .slice ad ps.length cap]), (1, zp_ b1 0), (2, .int .i64 0), (11, .bool false), (12, zp_ b1 0), (13, .int .i64 k), (14, .pointer (some (rad (some ⟨3, 0, none⟩) (k.toNat * 4)))), (15, .agg #[.int .i64 x1, .int .i64 x2, .int .i64 x3, .bool true]), (3, zp_ b2 0), (39, .bool false), (40, zp_ b2 3), (41, .bool true), (56, .bool false), (72, .bool r)]) ?_ fun r27 hr27 => ?_
          ·
           cases r26
           ·
            have qr27 := hr26
            replace hr26 := ne_of_beq_false hr26
            try dsimp only [Con.kind, Con.parts, Con.name, Con.lo, Con.hi, Con.cap, Con.ad] at hr26
            refine o_ rfl rfl (a_ (j_ K_ rfl rfl rfl s_) rfl (o_ rfl rfl (a_ (q_ 1 w_ rfl rfl rfl) rfl (o_ rfl rfl (ax_ (fN_ nm) rfl (.refl _) (fun _ _ _ => trivial) rfl fun r28 hr28 => ?_)))))
            refine a_ (N_ rfl rfl) rfl (d_ (r_ rfl ?_))
            exact met ⟨rfl, rfl, rfl, rfl, rfl, rfl, rfl, rfl, rfl, rfl, rfl, rfl, rfl, (E_ rfl (jof qr27 hr28)), trivial⟩
           ·
            have qr27 := hr26
            replace hr26 := eq_of_beq hr26
            try dsimp only [Con.kind, Con.parts, Con.name, Con.lo, Con.hi, Con.cap, Con.ad] at hr26
            refine t_ rfl rfl rfl rfl (t_ rfl rfl rfl rfl (t_ rfl rfl rfl rfl (a_ (R_ rfl rfl) rfl (d_ (r_ rfl ?_)))))
            exact met ⟨rfl, rfl, rfl, rfl, rfl, rfl, rfl, rfl, rfl, rfl, rfl, rfl, rfl, (E_ rfl (jot qr27)), trivial⟩
          ·
           refine a_ (h_ rfl) rfl ?_
           refine aT_ 9 ((((x1 == 0) || (bL_ nm))) || (((x1 == 2) && (cU_ nm)))) (fun r => [(0, .agg #[.int .i64 k, str nm, .int .i64 lo, .int .i64 hi, .slice ad ps.length cap]), (1, zp_ b1 0), (2, .int .i64 0), (11, .bool false), (12, zp_ b1 0), (13, .int .i64 k), (14, .pointer (some (rad (some ⟨3, 0, none⟩) (k.toNat * 4)))), (15, .agg #[.int .i64 x1, .int .i64 x2, .int .i64 x3, .bool true]), (3, zp_ b2 0), (39, .bool false), (40, zp_ b2 3), (41, .bool true), (56, .bool false), (82, .bool r)]) ?_ fun r29 hr29 => ?_
           ·
            cases r27
            ·
             have qr29 := hr27
             simp at hr27
             try dsimp only [Con.kind, Con.parts, Con.name, Con.lo, Con.hi, Con.cap, Con.ad] at hr27
             refine o_ rfl rfl (a_ (j_ dh_ rfl rfl rfl H_) rfl (o_ rfl rfl (a_ (q_ 0 J_ rfl rfl rfl) rfl (o_ rfl rfl (x_ (aA_ rfl rfl) rfl fun r30 hr30 => ?_)))))
             refine o_ rfl rfl (a_ (h_ rfl) rfl ?_)
             refine aT_ 4 ((x1 == 2) && (cU_ nm)) (fun r => [(0, .agg #[.int .i64 k, str nm, .int .i64 lo, .int .i64 hi, .slice ad ps.length cap]), (1, zp_ b1 0), (2, .int .i64 0), (11, .bool false), (12, zp_ b1 0), (13, .int .i64 k), (14, .pointer (some (rad (some ⟨3, 0, none⟩) (k.toNat * 4)))), (15, .agg #[.int .i64 x1, .int .i64 x2, .int .i64 x3, .bool true]), (3, zp_ b2 0), (39, .bool false), (40, zp_ b2 3), (41, .bool true), (56, .bool false), (73, .bool false), (81, .bool r)]) ?_ fun r31 hr31 => ?_
             ·
              cases r30
              ·
               have qr31 := hr30
               replace hr30 := ne_of_beq_false hr30
               try dsimp only [Con.kind, Con.parts, Con.name, Con.lo, Con.hi, Con.cap, Con.ad] at hr30
               refine t_ rfl rfl rfl rfl (t_ rfl rfl rfl rfl (t_ rfl rfl rfl rfl (o_ rfl rfl (a_ (N_ rfl rfl) rfl (d_ (r_ rfl ?_))))))
               exact met ⟨rfl, rfl, rfl, rfl, rfl, rfl, rfl, rfl, rfl, rfl, rfl, rfl, rfl, rfl, (E_ rfl (jaf qr31)), trivial⟩
              ·
               have qr31 := hr30
               replace hr30 := eq_of_beq hr30
               try dsimp only [Con.kind, Con.parts, Con.name, Con.lo, Con.hi, Con.cap, Con.ad] at hr30
               refine o_ rfl rfl (a_ (j_ K_ rfl rfl rfl s_) rfl (o_ rfl rfl (a_ (q_ 1 w_ rfl rfl rfl) rfl (o_ rfl rfl (ax_ (gm_ nm (Con.ok_name hok)) rfl (.refl _) (fun _ _ _ => trivial) rfl fun r32 hr32 => ?_)))))
               refine o_ rfl rfl (a_ (R_ rfl rfl) rfl (d_ (r_ rfl ?_)))
               exact met ⟨rfl, rfl, rfl, rfl, rfl, rfl, rfl, rfl, rfl, rfl, rfl, rfl, rfl, rfl, (E_ rfl (jat qr31 hr32)), trivial⟩
             ·
              refine a_ (N_ rfl rfl) rfl (d_ (r_ rfl ?_))
              exact met ⟨rfl, rfl, rfl, rfl, rfl, rfl, rfl, rfl, rfl, rfl, rfl, rfl, rfl, (E_ rfl (jof qr29 hr31)), trivial⟩
            ·
             have qr29 := hr27
             simp at hr27
             try dsimp only [Con.kind, Con.parts, Con.name, Con.lo, Con.hi, Con.cap, Con.ad] at hr27
             refine t_ rfl rfl rfl rfl (t_ rfl rfl rfl rfl (t_ rfl rfl rfl rfl (t_ rfl rfl rfl rfl (t_ rfl rfl rfl rfl (t_ rfl rfl rfl rfl (t_ rfl rfl rfl rfl (t_ rfl rfl rfl rfl (a_ (R_ rfl rfl) rfl (d_ ?_)))))))))
             refine r_ rfl ?_
             exact met ⟨rfl, rfl, rfl, rfl, rfl, rfl, rfl, rfl, rfl, rfl, rfl, rfl, rfl, (E_ rfl (jot qr29)), trivial⟩
           ·
            refine d_ (b_ rfl ?_)
            cases r29
            ·
             simp at hr29
             try dsimp only [Con.kind, Con.parts, Con.name, Con.lo, Con.hi, Con.cap, Con.ad] at hr29
             refine p_ rfl (A_ (b_ rfl (f_ (c_ (a_ (g_ rfl) rfl (d_ (b_ rfl (B_ ?_))))))))
             exact as_ eJ_ () (aJ_ rfl (by unfold Con.fieldErr; simp only [Con.kind, Con.parts, Con.name, Con.lo, Con.hi]; simp only [hnd]; repeat (first | rfl | exact (if_pos (by omega)).symm | (rw [if_pos (by first | omega | (simp_all; done) | (simp_all; omega) | grind)]; first | done | rfl) | (rw [if_neg (by first | omega | (simp_all; done) | (simp_all; omega) | grind)])))) (.refl _) (fun _ _ _ => trivial)
            ·
             simp at hr29
             try dsimp only [Con.kind, Con.parts, Con.name, Con.lo, Con.hi, Con.cap, Con.ad] at hr29
             refine n_ rfl (f_ (c_ (a_ (g_ rfl) rfl (d_ (b_ rfl (B_ ?_))))))
             exact as_ eJ_ () (aJ_ rfl (by unfold Con.fieldErr; simp only [Con.kind, Con.parts, Con.name, Con.lo, Con.hi]; simp only [hnd]; repeat (first | rfl | exact (if_pos (by omega)).symm | (rw [if_pos (by first | omega | (simp_all; done) | (simp_all; omega) | grind)]; first | done | rfl) | (rw [if_neg (by first | omega | (simp_all; done) | (simp_all; omega) | grind)])))) (.refl _) (fun _ _ _ => trivial)
         ·
          simp at hr24
          try dsimp only [Con.kind, Con.parts, Con.name, Con.lo, Con.hi, Con.cap, Con.ad] at hr24
          refine n_ rfl (f_ (c_ (a_ (g_ rfl) rfl (d_ (b_ rfl (B_ ?_))))))
          exact as_ eJ_ () (aJ_ rfl (by unfold Con.fieldErr; simp only [Con.kind, Con.parts, Con.name, Con.lo, Con.hi]; simp only [hnd]; repeat (first | rfl | exact (if_pos (by omega)).symm | (rw [if_pos (by first | omega | (simp_all; done) | (simp_all; omega) | grind)]; first | done | rfl) | (rw [if_neg (by first | omega | (simp_all; done) | (simp_all; omega) | grind)])))) (.refl _) (fun _ _ _ => trivial)
     ·
      simp at hr7
      try dsimp only [Con.kind, Con.parts, Con.name, Con.lo, Con.hi, Con.cap, Con.ad] at hr7
      refine n_ rfl (f_ (c_ (a_ (g_ rfl) rfl (d_ (b_ rfl (B_ ?_))))))
      exact as_ eJ_ () (aJ_ rfl (by unfold Con.fieldErr; simp only [Con.kind, Con.parts, Con.name, Con.lo, Con.hi]; simp only [hnd]; repeat (first | rfl | exact (if_pos (by omega)).symm | (rw [if_pos (by first | omega | (simp_all; done) | (simp_all; omega) | grind)]; first | done | rfl) | (rw [if_neg (by first | omega | (simp_all; done) | (simp_all; omega) | grind)])))) (.refl _) (fun _ _ _ => trivial)
  ·
   simp at hr2
   try dsimp only [Con.kind, Con.parts, Con.name, Con.lo, Con.hi, Con.cap, Con.ad] at hr2
   refine n_ rfl (f_ (c_ (a_ (g_ rfl) rfl (d_ (b_ rfl (B_ ?_))))))
   exact as_ eJ_ () (aJ_ rfl (by unfold Con.fieldErr; simp only [Con.kind, Con.parts, Con.name, Con.lo, Con.hi]; repeat (first | rfl | exact (if_pos (by omega)).symm | (rw [if_pos (by first | omega | (simp_all; done) | (simp_all; omega) | grind)]; first | done | rfl) | (rw [if_neg (by first | omega | (simp_all; done) | (simp_all; omega) | grind)])))) (.refl _) (fun _ _ _ => trivial)
end Go.Proofs.YtpdbbglpbngeiaaGreatDoor
namespace Go.Proofs.YtpdbbglpbngeiaaGreatDoor
open Go Go.Sx Go.Proofs
attribute [local irreducible] Code.wp wpList wpAnyH
open Go.Vs
theorem rv_ {σ τ : Type} {l : Nat} {Gj : σ → Hp} {Gx : τ → Hp} {stp : Con → σ → σ ⊕ τ} {E : List Fct} {good : Con → Prop} (hgood : ∀ c p, good c → p ∈ c.parts → good p)
  (hY : ∀ s x, x.ok → good x → pQ_ Tryz.prog l x.val (Gj s) (x.memF :: E) (fun _ : Unit => .bool (stp x s).isLeft) (fun _ => nb_ Gj Gx (stp x s)) (fun _ => [])) :
  ∀ (m : Nat) (c : Con), c.sz ≤ m → c.ok → good c → ∀ (s : σ) r, Con.fold stp c s = r →
  Tri Tryz.prog 201 #[c.val, .func (.yield l) #[] #[]] (Gj s) (c.memF :: E) (fun _ : Unit => .bool r.isLeft) (fun _ => nb_ Gj Gx r) (fun _ => []) := by
 intro m
 induction m with
 | zero => intro c h; have := c.sz_pos; omega
 | succ m ih =>
  intro c hm hok hg s r hr
  obtain ⟨k, nm, lo, hi, ad, cap, ps⟩ := c
  have hlen := Con.ok_len hok
  simp only [Con.parts, Con.cap] at hlen
  have hgp : ∀ p ∈ ps, good p := fun p hp => hgood _ p hg hp
  refine M_ Tryz.func201 rfl rfl Tryz.ntmps201 rfl fun v0 => ?_
  refine f_ (c_ (aF_ rfl rfl fun b1 => ?_))
  refine a_ (g_ rfl) rfl (d_ (b_ rfl (f_ (f_ ?_))))
  rcases hfc : stp (.mk k nm lo hi ad cap ps) s with s1 | t1
  ·
   refine mn_ (ι := Unit) (fun _ => [(1, .func (.yield l) #[] #[]), (2, zp_ b1 0), (10, .bool false)]) (fun _ => (b1, .cells (Con.mk k nm lo hi ad cap ps).cells.toArray 132 (0, 0)) :: Gj s1) (fun _ => [(Con.mk k nm lo hi ad cap ps).memF] ++ E) ?_ fun _ => ?_
   ·
    refine dP_ ?_
    refine dR_ fo_ (h_ rfl) rfl rfl ?_
    refine dR_ fo_ (dc_ (c := .mk k nm lo hi ad cap ps) 0 T_ v_ rfl rfl) rfl rfl ?_
    refine jI_ (hY s _ hok hg) rfl rfl (@List.perm_append_comm _ [_] _) (fun v _ h => h) rfl fun _ => ?_
    rw [hfc]
    refine dR_ fo_ (bG_ rfl) rfl rfl ?_
    refine fn_ ?_
    refine ig_ rfl ?_
    exact iv_ () ⟨rfl, rfl, rfl, trivial⟩ (F := []) (by rw [List.append_nil]; exact @List.perm_append_comm _ _ [_]) (fun _ _ h => h)
   ·
    refine b_ rfl (p_ rfl (A_ (b_ rfl (f_ (f_ (c_ (a_ (j_ K_ rfl rfl rfl bw_) rfl (a_ (q_ 0 bM_ rfl rfl rfl) rfl (a_ (ah_ av_ rfl) rfl ?_)))))))))
    refine a_ (h_ rfl) rfl (d_ (b_ rfl (S_ (bS_ [(1, .func (.yield l) #[] #[]), (12, .slice ad ps.length cap), (13, .int .i64 (ps.length : Int)), (14, .int .i64 ((0 : Nat) : Int))] ⟨rfl, rfl, rfl, rfl, trivial⟩ ?_))))
    refine bY_ (ι := {q : Nat × σ // q.1 ≤ ps.length ∧ Con.fold.folds stp (ps.take q.1) s1 = .inl q.2}) (fun i => [(1, .func (.yield l) #[] #[]), (12, .slice ad ps.length cap), (13, .int .i64 (ps.length : Int)), (14, .int .i64 (i.1.1 : Int))]) (fun i => _ :: Gj i.1.2) (fun _ => _) (fun i => ps.length - i.1.1) ⟨(0, s1), by simp [Con.fold.folds]⟩ ?_
    rintro ⟨⟨i, m1⟩, hk⟩
    refine bS_ [(1, .func (.yield l) #[] #[]), (12, .slice ad ps.length cap), (13, .int .i64 (ps.length : Int)), (14, .int .i64 (i : Int))] ⟨rfl, rfl, rfl, rfl, trivial⟩ ?_
    refine f_ (c_ (x_ (az_ rfl rfl) rfl fun r1 hr1 => ?_))
    refine d_ (b_ rfl (f_ ?_))
    cases r1
    ·
     replace hr1 := of_decide_eq_false hr1
     try dsimp only [Con.kind, Con.parts, Con.name, Con.lo, Con.hi, Con.cap, Con.ad] at hr1
     refine p_ rfl (aD_ rfl (b_ rfl (f_ (c_ (a_ (g_ rfl) rfl (d_ (b_ rfl (B_ ?_))))))))
     obtain rfl : r = .inl m1 := by rw [← hr, Con.fold_eq, hfc]; exact Con.folds_yes (show ps.length ≤ i by omega) hk.2
     exact as_ Tryz.results201 () rfl (@List.perm_append_comm _ [_] _) (fun _ _ _ => trivial)
    ·
     replace hr1 := of_decide_eq_true hr1
     try dsimp only [Con.kind, Con.parts, Con.name, Con.lo, Con.hi, Con.cap, Con.ad] at hr1
     have hlt : i < ps.length := by omega
     obtain ⟨p, hp⟩ : ∃ p, ps[i]? = some p := ⟨_, List.getElem?_eq_getElem hlt⟩
     have hpm : p ∈ ps := List.mem_of_getElem? hp
     refine n_ rfl (A_ (b_ rfl (f_ (S_ (f_ (c_ (a_ (ak_ av_ v_ rfl rfl (fun v _ h => Con.row_addr (c := .mk k nm lo hi ad cap ps) h.1 hp) (by omega) (by omega)) rfl (a_ (aE_ (us := p.cells) T_ v_ rfl (fun v _ h => ((Con.mem_iff (.mk k nm lo hi ad cap ps) v).1 h.1).1) p.cells_len (Con.part_cells (c := .mk k nm lo hi ad cap ps) (i := i) hp)) rfl (al_ eb_ rfl fun b2 => ?_)))))))))
     refine eE_ 0 v_ rfl rfl rfl rfl (d_ (b_ rfl (f_ ?_)))
     rcases hfp : Con.fold stp p m1 with m2 | t2
     ·
      refine c_ (a_ (dc_ 0 T_ v_ rfl rfl) rfl (a_ (h_ rfl) rfl (Q_ (ih p (by have := Con.sz_part (c := .mk k nm lo hi ad cap ps) hpm; omega) (Con.ok_part (c := .mk k nm lo hi ad cap ps) hok hpm) (hgp p hpm) m1 _ hfp) rfl (@List.perm_append_comm _ [_, _] _) (fun v _ h => ⟨Con.mem_part (c := .mk k nm lo hi ad cap ps) h.1 hpm, h.2⟩) rfl fun _ => ?_)))
      refine at_ (@List.perm_append_comm _ _ [_, _]) (a_ (bG_ rfl) rfl (d_ (b_ rfl (p_ rfl (A_ (b_ rfl (c_ (a_ (V_ rfl rfl rfl (aq_ (by omega) (by omega))) rfl (a_ (h_ rfl) rfl ?_)))))))))
      refine d_ (r_ rfl ?_)
      exact ao_ ⟨(i + 1, m2), hlt, Con.folds_step hp hk.2 hfp⟩ (by simp; omega) ⟨rfl, rfl, rfl, rfl, trivial⟩ (F := [_]) (@List.perm_append_comm _ [_] _) (fun _ _ h => h)
     ·
      refine c_ (a_ (dc_ 0 T_ v_ rfl rfl) rfl (a_ (h_ rfl) rfl (Q_ (ih p (by have := Con.sz_part (c := .mk k nm lo hi ad cap ps) hpm; omega) (Con.ok_part (c := .mk k nm lo hi ad cap ps) hok hpm) (hgp p hpm) m1 _ hfp) rfl (@List.perm_append_comm _ [_, _] _) (fun v _ h => ⟨Con.mem_part (c := .mk k nm lo hi ad cap ps) h.1 hpm, h.2⟩) rfl fun _ => ?_)))
      refine at_ (@List.perm_append_comm _ _ [_, _]) (a_ (bG_ rfl) rfl (d_ (b_ rfl (n_ rfl (f_ (c_ (a_ (g_ rfl) rfl (d_ (b_ rfl ?_)))))))))
      refine B_ ?_
      obtain rfl : r = .inr t2 := by rw [← hr, Con.fold_eq, hfc]; exact Con.folds_no hp hk.2 hfp
      exact as_ Tryz.results201 () rfl (@List.perm_append_comm _ [_, _] _) (fun _ _ _ => trivial)
  ·
   refine mn_ (ι := Unit) (fun _ => [(1, .func (.yield l) #[] #[]), (2, zp_ b1 0), (10, .bool true)]) (fun _ => (b1, .cells (Con.mk k nm lo hi ad cap ps).cells.toArray 132 (0, 0)) :: Gx t1) (fun _ => [(Con.mk k nm lo hi ad cap ps).memF] ++ E) ?_ fun _ => ?_
   ·
    refine dP_ ?_
    refine dR_ fo_ (h_ rfl) rfl rfl ?_
    refine dR_ fo_ (dc_ (c := .mk k nm lo hi ad cap ps) 0 T_ v_ rfl rfl) rfl rfl ?_
    refine jI_ (hY s _ hok hg) rfl rfl (@List.perm_append_comm _ [_] _) (fun v _ h => h) rfl fun _ => ?_
    rw [hfc]
    refine dR_ fo_ (bG_ rfl) rfl rfl ?_
    refine fn_ ?_
    refine ig_ rfl ?_
    exact iv_ () ⟨rfl, rfl, rfl, trivial⟩ (F := []) (by rw [List.append_nil]; exact @List.perm_append_comm _ _ [_]) (fun _ _ h => h)
   ·
    refine b_ rfl (n_ rfl (f_ (c_ (a_ (g_ rfl) rfl (d_ (b_ rfl (B_ ?_)))))))
    obtain rfl : r = .inr t1 := by rw [← hr, Con.fold_eq, hfc]
    exact as_ Tryz.results201 () rfl (@List.perm_append_comm _ [_] _) (fun _ _ _ => trivial)
theorem walk_c (c : Con) :
    Tri Tryz.prog 178 #[c.val] [] [] (fun b : Nat => .func (.func 200) #[] #[zp_ b 0]) (fun b => [(b, .cells c.cells.toArray 132 (0, 0))]) (fun _ => []) := by
  refine M_ Tryz.func178 rfl rfl Tryz.ntmps178 rfl fun v0 => ?_
  refine f_ (c_ (aF_ rfl rfl fun b1 => ?_))
  refine a_ (g_ rfl) rfl (d_ (b_ rfl (f_ (c_ (a_ (cp_ rfl rfl) rfl (a_ (g_ rfl) rfl (d_ (b_ rfl (B_ ?_)))))))))
  exact as_ Tryz.results178 b1 rfl (F := []) (.refl _) (fun _ _ _ => trivial)
theorem ru_ {σ τ : Type} {l b : Nat} {Gj : σ → Hp} {Gx : τ → Hp} {stp : Con → σ → σ ⊕ τ} {E : List Fct} {good : Con → Prop} (hgood : ∀ c p, good c → p ∈ c.parts → good p)
    (hY : ∀ s x, x.ok → good x → pQ_ Tryz.prog l x.val (Gj s) (x.memF :: E) (fun _ : Unit => .bool (stp x s).isLeft) (fun _ => nb_ Gj Gx (stp x s)) (fun _ => []))
    (c : Con) (hok : c.ok) (hg : good c) (s : σ) :
    Tri Tryz.prog 200 #[.func (.yield l) #[] #[], zp_ b 0] ((b, .cells c.cells.toArray 132 (0, 0)) :: Gj s) (c.memF :: E) (fun _ : Unit => .tuple #[]) (fun _ => (b, .cells c.cells.toArray 132 (0, 0)) :: nb_ Gj Gx (Con.fold stp c s)) (fun _ => []) := by
  refine M_ Tryz.func200 rfl rfl Tryz.ntmps200 rfl fun v0 => ?_
  refine c_ (a_ (dc_ (c := c) 0 T_ v_ rfl rfl) rfl (a_ (h_ rfl) rfl (Q_ (rv_ hgood hY _ c (Nat.le_refl _) hok hg s _ rfl) rfl (@List.perm_append_comm _ [_] _) (fun v _ h => h) rfl fun _ => ?_)))
  refine d_ (aO_ rfl ?_)
  exact cn_ Tryz.results200 () rfl (F := []) (by rw [List.append_nil]; exact @List.perm_append_comm _ _ [_]) (fun _ _ _ => trivial)
theorem ez_ (c : Con) (hok : c.ok) : Tri Tryz.prog 135 #[c.val] [] [c.memF, dB_] (fun _ : Unit => .int .i64 c.check) (fun _ => []) (fun _ => []) := by
  obtain ⟨k, nm, lo, hi, ad, cap, ps⟩ := c
  refine ld_ Tryz.func135 rfl rfl Tryz.ntmps135 rfl fun v0 => ?_
  refine f_ (c_ (aF_ rfl rfl fun b1 => ?_))
  refine al_ Tryz.zeroValue29 rfl fun b2 => ?_
  refine d_ (b_ rfl (f_ (c_ (al_ io_ rfl fun b3 => ?_))))
  refine Z_ 0 H_ rfl rfl rfl rfl rfl rfl (d_ (b_ rfl (f_ (f_ (c_ (a_ (L_ 2 T_ v_ rfl rfl rfl) rfl (jH_ 0 (fits_c _ (.mk k nm lo hi ad cap ps) (Nat.le_refl _) hok 0 0 b3 (by omega) (by omega) _ rfl) rfl rfl (fun v _ h => ⟨h.1, trivial⟩) rfl fun r1 hr1 => ?_)))))))
  refine a_ (bG_ rfl) rfl (d_ (b_ rfl ?_))
  cases r1
  · skip
    try dsimp only [Con.kind, Con.parts, Con.name, Con.lo, Con.hi, Con.cap, Con.ad] at hr1
    refine n_ rfl (f_ (c_ (Z_ 1 Tryz.sizeOf29 rfl rfl rfl rfl rfl rfl (d_ (b_ rfl (B_ ?_))))))
    exact retM () (fun a v h1 h2 _ => by rw [jw_ 1 Tryz.results135 Tryz.isAgg29 rfl rfl a v h1 h2]; simp [Con.check, *]) (.refl _) (fun _ _ _ => trivial)
  · skip
    try dsimp only [Con.kind, Con.parts, Con.name, Con.lo, Con.hi, Con.cap, Con.ad] at hr1
    refine p_ rfl (A_ (b_ rfl (f_ (f_ (c_ (a_ (L_ 2 T_ v_ rfl rfl rfl) rfl (Q_ (walk_c (.mk k nm lo hi ad cap ps)) rfl (.refl _) (fun _ _ _ => trivial) rfl fun b => ?_)))))))
    refine d_ (b_ rfl (S_ (bS_ [(2, zp_ b2 0), (10, .func (.func 200) #[] #[zp_ b 0])] ⟨rfl, rfl, trivial⟩ ?_)))
    refine ew_ (H' := [_, _]) (F := [_, _]) (.cons _ (.swap _ _ _)) (fun _ _ h => h) ?_
    refine oZ_ (α := {c : Con // c.ok}) (xv := fun x => x.1.val) (good := fun _ => True) (stp := fun x => Con.chk x.1) (Γx := fun x => [x.1.memF, dB_]) (Γi := [Con.memF (.mk k nm lo hi ad cap ps), dB_]) (Hj := fun _ : Unit => [(b2, .cells #[.int .i64 0] 29 (0, 0))]) (Hx := fun t : Int => [(b2, .cells #[.int .i64 t] 29 (0, 0))]) (Hc := [(b, .cells (Con.mk k nm lo hi ad cap ps).cells.toArray 132 (0, 0))]) (caps := [zp_ b 0]) () (Con.fold Con.chk (.mk k nm lo hi ad cap ps) ()) rfl (.refl _) (fun v _ h => h) ?_ ?_ ?_ ?_
    · rintro l D rec hp hst hpe ht hasg hbody s ⟨x, hx⟩ -
      refine ns_ (ι := Nat) (Hj := fun _ : Unit => [(b2, .cells #[.int .i64 0] 29 (0, 0))]) (Hx := fun t : Int => [(b2, .cells #[.int .i64 t] 29 (0, 0))]) (s := s) (res := Con.chk x s) (Γ := [x.memF, dB_]) (fun b4 => [(2, zp_ b2 0), (4, zp_ b4 0)]) (fun b4 => [(b4, .cells x.cells.toArray 132 (0, 0)), (b2, .cells #[.int .i64 0] 29 (0, 0))]) hp hst hpe ht rfl ?_ ?_
      · intro n v0 H0 HL
        rw [hasg]
        refine dP_ ?_
        refine nL_ (ek_ _) eb_ rfl fun b4 => ?_
        refine mI_ (ek_ _) 0 v_ rfl rfl rfl rfl ?_
        refine fn_ ?_
        refine ig_ rfl ?_
        exact iv_ b4 ⟨rfl, rfl, trivial⟩ (F := []) (by rw [List.append_nil]; exact .refl _) (fun _ _ h => h)
      · intro n v0 H0 HL b4
        rw [hbody]
        refine nA_ ?_
        refine hR_ ?_
        refine dP_ ?_
        refine dR_ (ek_ _) (dc_ 0 T_ v_ rfl rfl) rfl rfl ?_
        refine px_ (kx_ x hx) rfl (.refl _) (fun v _ h => ⟨h.2.1, trivial⟩) rfl fun _ => ?_
        refine dR_ (ek_ _) (g_ rfl) rfl rfl ?_
        refine fn_ ?_
        refine fT_ rfl ?_
        refine hR_ ?_
        refine dP_ ?_
        refine dR_ (ek_ _) (h_ rfl) rfl rfl ?_
        refine pw_ (ek_ _) (bR_ rfl rfl) rfl rfl fun r2 hr2 => ?_
        refine fn_ ?_
        refine fT_ rfl ?_
        cases r2
        · skip
          replace hr2 := bc_ hr2
          try dsimp only [Con.kind, Con.parts, Con.name, Con.lo, Con.hi, Con.cap, Con.ad] at hr2
          refine ms_ rfl ?_
          refine pa_ ?_
          refine ig_ rfl ?_
          exact pc_ () (by simp [Con.chk, *]) (G := [_]) (@List.perm_append_comm _ [_] _)
        · skip
          replace hr2 := bb_ hr2
          try dsimp only [Con.kind, Con.parts, Con.name, Con.lo, Con.hi, Con.cap, Con.ad] at hr2
          refine mr_ rfl ?_
          refine hR_ ?_
          refine dP_ ?_
          refine dR_ (ek_ _) (h_ rfl) rfl rfl ?_
          refine hx_ (ek_ _) 1 Tryz.sizeOf29 rfl rfl rfl rfl rfl rfl ?_
          refine fn_ ?_
          refine fT_ rfl ?_
          refine mq_ ?_
          exact pb_ x.fieldErr (by simp [Con.chk, *]) (G := [_]) (@List.perm_append_comm _ [_] _)
    · intro l Gj Gx hY
      exact ru_ (E := [dB_]) (good := fun _ => True) (fun _ _ _ _ => trivial) (fun s x hx _ => hY s ⟨x, hx⟩ trivial) _ hok trivial ()
    · intro s hs D l r
      rw [Con.fold_chk _ _ (Nat.le_refl _)] at hs
      refine fT_ rfl ?_
      refine hR_ ?_
      refine dP_ ?_
      refine hx_ fo_ 1 Tryz.sizeOf29 rfl rfl rfl rfl rfl rfl ?_
      refine fn_ ?_
      refine fT_ rfl ?_
      refine mq_ ?_
      have hz : (0 : Int) = (Con.mk k nm lo hi ad cap ps).check := by unfold Con.check; rw [if_pos (by assumption)]; split at hs; (rename_i h; exact h.symm); cases hs
      exact sF_ (G := [_, _, _]) () (fun a v h1 h2 => by rw [← hz]; exact jw_ 1 Tryz.results135 Tryz.isAgg29 rfl rfl a v h1 h2) (eV_ (i := 3) rfl) ⟨_, .refl _⟩ rfl
    · intro t hs D l r
      rw [Con.fold_chk _ _ (Nat.le_refl _)] at hs
      have hz : t = (Con.mk k nm lo hi ad cap ps).check := by unfold Con.check; rw [if_pos (by assumption)]; split at hs; cases hs; injection hs with hs; exact hs.symm
      exact sF_ (G := [_, _, _]) () (fun a v h1 h2 => by rw [← hz]; exact jw_ 1 Tryz.results135 Tryz.isAgg29 rfl rfl a v h1 h2) (eV_ (i := 3) rfl) ⟨_, .refl _⟩ rfl
end Go.Proofs.YtpdbbglpbngeiaaGreatDoor
