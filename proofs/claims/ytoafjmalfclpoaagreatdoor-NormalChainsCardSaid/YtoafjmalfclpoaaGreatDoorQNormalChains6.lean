/-
  Part of the proof of the law NormalChains over this seat: the small logic, the data, the contracts of functions (no condition).
-/
import Derived.Test.YtoafjmalfclpoaaGreatDoorQNormalChains5
import Derived.Test.YtoafjmalfclpoaaGreatDoorQNormalChains2
import Derived.Test.YtoafjmalfclpoaaGreatDoorProg
set_option linter.unusedVariables false
set_option linter.unusedSimpArgs false
set_option linter.unusedSectionVars false
namespace Go.Proofs.YtoafjmalfclpoaaGreatDoor
open Go Go.Sx Go.Proofs
attribute [local irreducible] Code.wp wpList wpAnyH
open Go.Vs
def prE : Array MapEntry := #[⟨.int .i64 1, .func (.func 98) #[] #[], 0⟩, ⟨.int .i64 2, .func (.func 99) #[] #[], 1⟩, ⟨.int .i64 3, .func (.func 100) #[] #[], 2⟩, ⟨.int .i64 4, .func (.func 101) #[] #[], 3⟩, ⟨.int .i64 5, .func (.func 102) #[] #[], 4⟩, ⟨.int .i64 6, .func (.func 103) #[] #[], 5⟩, ⟨.int .i64 7, .func (.func 104) #[] #[], 6⟩]
def prF (m : Nat) : Fct := dp_ m (.map prE 7)
def prV (m n : Nat) : Value := .agg #[.map (some m), .map (some n)]
theorem elt39 : Elt Tryz.prog 39 9 1 16 := hn_ Tryz.underlying39 (z := .string ⟨#[]⟩) (by kernel_rfl) rfl (by decide)
theorem la_ {b n cap : Nat} (xs : List Str) (sep : Str) (hn : xs.length = n) {arr : Array Value} {T : TypeId} {fz : Nat × Nat} (hc : ∀ (j : Nat) (x : Str), xs[j]? = some x → arr[j]? = some (str x)) (hcap : xs.length ≤ cap) (hN : xs.length ≤ 1000000) (hlen : (Lib.join xs sep).length ≤ 140737488355328) :
    Tri Tryz.prog 143 #[.slice (some ⟨b, 0, none⟩) n cap, str sep] [(b, .cells arr T fz)] [bH_] (fun _ : Unit => str (Lib.join xs sep)) (fun _ => [(b, .cells arr T fz)]) (fun _ => []) := by
  subst hn
  refine ey_ (callable Tryz.func143 rfl rfl) fun v h1 hs => ?_
  have hb := (h1.own _ List.mem_cons_self).1
  have e : (xs.map fun x => (⟨x.toArray⟩ : ByteArray)).map (·.data.toList) = xs := by simp [List.map_map, Function.comp_def]
  have := Tryz.strings_Join b 0 cap (xs.map fun x => ⟨x.toArray⟩) ⟨sep.toArray⟩ v.w (fun j x hj => by
    simp only [List.getElem?_map, Option.map_eq_some_iff] at hj
    obtain ⟨y, hy, rfl⟩ := hj
    simp only [World.cell?, hb, Nat.zero_add]
    exact hc j y hy) (Array.getElem?_eq_some_iff.1 hb).1 (by simp; omega) (by simpa using hcap) (by rw [e]; exact hlen)
  rw [e, List.length_map] at this
  exact this.mono fun _ _ q => ⟨q.1, q.2, .inl hs.1.2.2.2.1⟩
theorem lb_ (n : Int) (h0 : -9223372036854775808 ≤ n) (h1 : n ≤ 9223372036854775807) : Tri Tryz.prog 145 #[.int .i64 n] [] [bH_] (fun _ : Unit => str (Lib.itoa n)) (fun _ => []) (fun _ => []) :=
  ey_ (callable Tryz.func145 rfl rfl) fun v _ h => (Tryz.strconv_Itoa n h0 h1 v.w (jV_ h.1.2.2.2)).mono (by
    rintro e w' ⟨rfl, k, os, rfl⟩
    exact ⟨rfl, jj_ _ _ _, .inr (Nat.le_add_right _ _)⟩)
theorem jm_ {b n : Nat} (xs : List Str) (hn : xs.length = n) {arr : Array Value} {T : TypeId} {fz : Nat × Nat} (hc : ∀ (j : Nat) (x : Str), xs[j]? = some x → arr[j]? = some (str x)) (hN : xs.length ≤ 1000000) (hlen : (Lib.join xs [32]).length ≤ 140737488355328) :
    Tri Tryz.prog 144 #[.slice (some ⟨b, 0, none⟩) n n] [(b, .cells arr T fz)] [bH_] (fun _ : Unit => str (Lib.join xs [32])) (fun _ => [(b, .cells arr T fz)]) (fun _ => []) := by
  refine M_ Tryz.func144 rfl rfl Tryz.ntmps144 rfl fun v0 => ?_
  refine f_ (b_ (a_ (e_ rfl) rfl (d_ (c_ rfl (f_ (b_ (a_ (g_ rfl) rfl (A_ (la_ xs [32] hn hc (Nat.le_of_eq hn) hN hlen) rfl (.refl _) (fun v _ h => h) rfl fun _ => ?_))))))))
  refine a_ (e_ rfl) rfl (d_ (c_ rfl (B_ ?_)))
  exact aj_ Tryz.results144 () rfl (F := []) (.refl _) (fun _ _ _ => trivial)
theorem pr_top (c : Con) (m n : Nat) (hk : c.kind = 1) : Tri Tryz.prog 98 #[prV m n, c.val] [] [c.memF, prF m, bH_] (fun _ : Unit => str c.text) (fun _ => []) (fun _ => []) := by
  obtain ⟨k, nm, lo, hi, ad, cap, ps⟩ := c
  simp only [Con.kind] at hk
  refine M_ Tryz.func98 rfl rfl Tryz.ntmps98 rfl fun v0 => ?_
  refine f_ (b_ (aI_ rfl rfl fun b1 => ?_))
  refine aI_ rfl rfl fun b2 => ?_
  refine a_ (e_ rfl) rfl (d_ (c_ rfl (f_ (b_ (a_ (e_ rfl) rfl (d_ (c_ rfl (B_ ?_))))))))
  exact aj_ Tryz.results98 () (cf_ rfl (by rw [Con.text_eq]; simp [Con.kind, Con.name, hk])) (.refl _) (fun _ _ _ => trivial)
theorem jU_ (c : Con) (m n : Nat) (hk : c.kind = 2) : Tri Tryz.prog 99 #[prV m n, c.val] [] [c.memF, prF m, bH_] (fun _ : Unit => str c.text) (fun _ => []) (fun _ => []) := by
  obtain ⟨k, nm, lo, hi, ad, cap, ps⟩ := c
  simp only [Con.kind] at hk
  refine M_ Tryz.func99 rfl rfl Tryz.ntmps99 rfl fun v0 => ?_
  refine f_ (b_ (aI_ rfl rfl fun b1 => ?_))
  refine aI_ rfl rfl fun b2 => ?_
  refine a_ (e_ rfl) rfl (d_ (c_ rfl (f_ (b_ (a_ (e_ rfl) rfl (d_ (c_ rfl (B_ ?_))))))))
  exact aj_ Tryz.results99 () (cf_ rfl (by rw [Con.text_eq]; simp [Con.kind, Con.name, hk])) (.refl _) (fun _ _ _ => trivial)
theorem kM_ (c : Con) (m n : Nat) (hk : c.kind = 3) : Tri Tryz.prog 100 #[prV m n, c.val] [] [c.memF, prF m, bH_] (fun _ : Unit => str c.text) (fun _ => []) (fun _ => []) := by
  obtain ⟨k, nm, lo, hi, ad, cap, ps⟩ := c
  simp only [Con.kind] at hk
  refine M_ Tryz.func100 rfl rfl Tryz.ntmps100 rfl fun v0 => ?_
  refine f_ (b_ (aI_ rfl rfl fun b1 => ?_))
  refine aI_ rfl rfl fun b2 => ?_
  refine a_ (e_ rfl) rfl (d_ (c_ rfl (f_ (b_ (a_ (m_ C_ rfl rfl rfl z_) rfl (a_ (t_ 0 E_ rfl rfl rfl) rfl (a_ (e_ rfl) rfl (d_ (c_ rfl ?_)))))))))
  refine B_ ?_
  exact aj_ Tryz.results100 () (cf_ rfl (by rw [Con.text_eq]; simp [Con.kind, Con.name, hk])) (.refl _) (fun _ _ _ => trivial)
theorem iX_ (c : Con) (m n : Nat) (hk : c.kind = 4) (hl : c.name.length ≤ 24) : Tri Tryz.prog 101 #[prV m n, c.val] [] [c.memF, prF m, bH_] (fun _ : Unit => str c.text) (fun _ => []) (fun _ => []) := by
  obtain ⟨k, nm, lo, hi, ad, cap, ps⟩ := c
  simp only [Con.kind] at hk
  refine M_ Tryz.func101 rfl rfl Tryz.ntmps101 rfl fun v0 => ?_
  simp only [Con.name] at hl
  refine f_ (b_ (aI_ rfl rfl fun b1 => ?_))
  refine aI_ rfl rfl fun b2 => ?_
  refine a_ (e_ rfl) rfl (d_ (c_ rfl (f_ (b_ (a_ (m_ C_ rfl rfl rfl z_) rfl (a_ (t_ 0 E_ rfl rfl rfl) rfl (a_ (cm_ rfl rfl (by simp [Con.name]; omega)) rfl (a_ (cm_ rfl rfl (by simp [Con.name]; omega)) rfl (a_ (e_ rfl) rfl ?_)))))))))
  refine d_ (c_ rfl (B_ ?_))
  exact aj_ Tryz.results101 () (cf_ rfl (by rw [Con.text_eq]; simp [Con.kind, Con.name, hk])) (.refl _) (fun _ _ _ => trivial)
theorem iW_ (c : Con) (m n : Nat) (hl : c.text.length ≤ 100000) (hT : Tri Tryz.prog 60 #[prV m n, c.val] [] [c.memF, prF m, bH_] (fun _ : Unit => str c.text) (fun _ => []) (fun _ => [])) : Tri Tryz.prog 142 #[prV m n, c.val] [] [c.memF, prF m, bH_] (fun _ : Unit => str c.operand) (fun _ => []) (fun _ => []) := by
  obtain ⟨k, nm, lo, hi, ad, cap, ps⟩ := c
  refine M_ Tryz.func142 rfl rfl Tryz.ntmps142 rfl fun v0 => ?_
  refine f_ (b_ (aI_ rfl rfl fun b1 => ?_))
  refine aI_ rfl rfl fun b2 => ?_
  refine a_ (e_ rfl) rfl (d_ (c_ rfl (f_ (f_ (b_ (a_ (m_ C_ rfl rfl rfl L_) rfl (a_ (t_ 0 O_ rfl rfl rfl) rfl (v_ (ai_ rfl rfl) rfl fun r1 hr1 => ?_))))))))
  refine d_ (c_ rfl ?_)
  cases r1
  · skip
    replace hr1 := ne_of_beq_false hr1
    try dsimp only [Con.kind, Con.parts, Con.name, Con.lo, Con.hi, Con.cap, Con.ad] at hr1
    refine r_ rfl (D_ (c_ rfl (f_ (b_ (a_ (G_ 1 jf_ fn_ rfl rfl rfl) rfl (a_ (G_ 0 x_ k_ rfl rfl rfl) rfl (A_ (hT) rfl (.refl _) (fun v _ h => h) rfl fun _ => ?_)))))))
    refine a_ (e_ rfl) rfl (d_ (c_ rfl (B_ ?_)))
    exact aj_ Tryz.results142 () (cf_ rfl (by unfold Con.operand; first | exact (if_pos (by assumption)).symm | exact (if_neg (by assumption)).symm)) (.refl _) (fun _ _ _ => trivial)
  · skip
    replace hr1 := eq_of_beq hr1
    try dsimp only [Con.kind, Con.parts, Con.name, Con.lo, Con.hi, Con.cap, Con.ad] at hr1
    refine p_ rfl (f_ (b_ (a_ (G_ 1 jf_ fn_ rfl rfl rfl) rfl (a_ (G_ 0 x_ k_ rfl rfl rfl) rfl (A_ (hT) rfl (.refl _) (fun v _ h => h) rfl fun _ => ?_)))))
    refine a_ (cm_ rfl rfl (by simp only [List.length_append, List.length_cons, List.length_nil]; omega)) rfl (a_ (cm_ rfl rfl (by simp only [List.length_append, List.length_cons, List.length_nil]; omega)) rfl (a_ (e_ rfl) rfl (d_ (c_ rfl (B_ ?_)))))
    exact aj_ Tryz.results142 () (cf_ rfl (by unfold Con.operand; first | exact (if_pos (by assumption)).symm | exact (if_neg (by assumption)).symm)) (.refl _) (fun _ _ _ => trivial)
theorem dT_ (c : Con) (m n : Nat) {g i : Nat} (hf : cH_ Tryz.prog 3 (.int .i64 c.kind) prE.toList (some (i, .func (.func g) #[] #[]))) (hT : Tri Tryz.prog g #[prV m n, c.val] [] [c.memF, prF m, bH_] (fun _ : Unit => str c.text) (fun _ => []) (fun _ => [])) : Tri Tryz.prog 60 #[prV m n, c.val] [] [c.memF, prF m, bH_] (fun _ : Unit => str c.text) (fun _ => []) (fun _ => []) := by
  obtain ⟨k, nm, lo, hi, ad, cap, ps⟩ := c
  refine M_ Tryz.func60 rfl rfl Tryz.ntmps60 rfl fun v0 => ?_
  refine f_ (b_ (aI_ rfl rfl fun b1 => ?_))
  refine aI_ rfl rfl fun b2 => ?_
  refine a_ (e_ rfl) rfl (d_ (c_ rfl (f_ (b_ (a_ (m_ Tryz.runUnderlying94 rfl rfl rfl Tryz.sizeOf91) rfl (a_ (t_ 1 Tryz.isAgg91 rfl rfl rfl) rfl (a_ (m_ C_ rfl rfl rfl L_) rfl (a_ (t_ 0 O_ rfl rfl rfl) rfl (a_ (dR_ cA_ rfl rfl (fun v _ h => h.2.1.2) (bL_ Q_) hf) rfl ?_)))))))))
  refine a_ (G_ 1 jf_ fn_ rfl rfl rfl) rfl (a_ (G_ 0 x_ k_ rfl rfl rfl) rfl (aE_ (hT) rfl rfl (.refl _) (fun v _ h => by exact h) rfl fun _ => ?_))
  refine a_ (e_ rfl) rfl (d_ (c_ rfl (B_ ?_)))
  exact aj_ Tryz.results60 () rfl (.refl _) (fun _ _ _ => trivial)
theorem strt94 : gW_ Tryz.prog 94 [(0, 1), (1, 1)] [.map none, .map none] := ⟨_, Tryz.zeroValue94, Tryz.runUnderlying94, fun w => by simp [Tryz.sizeOf91, Tryz.sizeOf92]⟩
theorem hA_ : Tri Tryz.prog 59 #[] [] [] (fun q : Nat × Nat => prV q.1 q.2) (fun _ => []) (fun q => [prF q.1]) := by
  refine M_ Tryz.func59 rfl rfl Tryz.ntmps59 rfl fun v0 => ?_
  refine f_ (b_ (an_ Tryz.zeroValue94 rfl fun b1 => ?_))
  refine d_ (c_ rfl (f_ (b_ (dh_ rfl fun b2 => ?_))))
  refine bg_ 0 (.inl rfl) cA_ rfl rfl rfl rfl (bL_ Q_) (ba_ Q_ rfl) (bg_ 0 (.inl rfl) cA_ rfl rfl rfl rfl (bL_ Q_) (ba_ Q_ rfl) (bg_ 0 (.inl rfl) cA_ rfl rfl rfl rfl (bL_ Q_) (ba_ Q_ rfl) (bg_ 0 (.inl rfl) cA_ rfl rfl rfl rfl (bL_ Q_) (ba_ Q_ rfl) (bg_ 0 (.inl rfl) cA_ rfl rfl rfl rfl (bL_ Q_) (ba_ Q_ rfl) (bg_ 0 (.inl rfl) cA_ rfl rfl rfl rfl (bL_ Q_) (ba_ Q_ rfl) (bg_ 0 (.inl rfl) cA_ rfl rfl rfl rfl (bL_ Q_) (ba_ Q_ rfl) (a_ (g_ rfl) rfl (dh_ rfl fun b3 => ?_))))))))
  refine bg_ 0 (.inl rfl) cb_ rfl rfl rfl rfl (bL_ Q_) (ba_ Q_ rfl) (bg_ 0 (.inl rfl) cb_ rfl rfl rfl rfl (bL_ Q_) (ba_ Q_ rfl) (bg_ 0 (.inl rfl) cb_ rfl rfl rfl rfl (bL_ Q_) (ba_ Q_ rfl) (bg_ 0 (.inl rfl) cb_ rfl rfl rfl rfl (bL_ Q_) (ba_ Q_ rfl) (bg_ 0 (.inl rfl) cb_ rfl rfl rfl rfl (bL_ Q_) (ba_ Q_ rfl) (bg_ 0 (.inl rfl) cb_ rfl rfl rfl rfl (bL_ Q_) (ba_ Q_ rfl) (bg_ 0 (.inl rfl) cb_ rfl rfl rfl rfl (bL_ Q_) (ba_ Q_ rfl) (bg_ 0 (.inl rfl) cb_ rfl rfl rfl rfl (bL_ Q_) (ba_ Q_ rfl) (bg_ 0 (.inl rfl) cb_ rfl rfl rfl rfl (bL_ Q_) (ba_ Q_ rfl) (a_ (g_ rfl) rfl ?_)))))))))
  refine a_ (N_ strt94 rfl rfl) rfl (ah_ 2 fn_ rfl rfl rfl rfl rfl rfl (d_ (c_ rfl (B_ (ep_ 1 rfl ?_)))))
  exact kI_ (b2, b3) (fun a v h1 h2 => en_ (us := [_, _]) 1 Tryz.results59 jf_ fn_ rfl rfl rfl a v h1 h2) (.refl _) (fun v _ h => ⟨h.1, trivial⟩)
theorem pr_and (c : Con) (m n : Nat) (hk0 : c.kind = 5) (hps : 2 ≤ c.parts.length ∧ c.parts.length ≤ 8) (hl : (Lib.join (c.parts.map Con.operand) [32, 97, 110, 100, 32]).length ≤ 140737488355328) (hop : ∀ p ∈ c.parts, Tri Tryz.prog 142 #[prV m n, p.val] [] [p.memF, prF m, bH_] (fun _ : Unit => str p.operand) (fun _ => []) (fun _ => [])) : Tri Tryz.prog 102 #[prV m n, c.val] [] [c.memF, prF m, bH_] (fun _ : Unit => str c.text) (fun _ => []) (fun _ => []) := by
  obtain ⟨k, nm, lo, hi, ad, cap, ps⟩ := c
  simp only [Con.kind, Con.parts] at hk0 hps hl hop
  refine M_ Tryz.func102 rfl rfl Tryz.ntmps102 rfl fun v0 => ?_
  refine f_ (b_ (aI_ rfl rfl fun b1 => ?_))
  refine aI_ rfl rfl fun b2 => ?_
  refine a_ (e_ rfl) rfl (d_ (c_ rfl (f_ (b_ (a_ (e_ rfl) rfl (d_ (c_ rfl (f_ (f_ ?_)))))))))
  refine b_ (a_ (m_ C_ rfl rfl rfl bc_) rfl (a_ (t_ 0 bt_ rfl rfl rfl) rfl (a_ (ar_ P_ rfl) rfl (a_ (g_ rfl) rfl (d_ (c_ rfl (T_ (bs_ [(2, zp_ b1 0), (5, .slice none 0 0), (9, .slice ad ps.length cap), (10, .int .i64 (ps.length : Int)), (11, .int .i64 ((0 : Nat) : Int))] ⟨rfl, rfl, rfl, rfl, rfl, trivial⟩ ?_))))))))
  refine bE_ (ι := {q : Nat × Value × Hp // q.1 ≤ ps.length ∧ bk_ 9 1 q.2.1 q.1 ((ps.take q.1).flatMap fun p => cn_ p.operand) q.2.2}) (fun q => [(2, zp_ b1 0), (5, q.1.2.1), (9, .slice ad ps.length cap), (10, .int .i64 (ps.length : Int)), (11, .int .i64 (q.1.1 : Int))]) (fun q => _ :: _ :: q.1.2.2) (fun _ => _) (fun q => ps.length - q.1.1) ⟨(0, .slice none 0 0, []), by simp, bk_.nil _ _⟩ ?_
  rintro ⟨⟨i, sv, Hr⟩, hk⟩
  dsimp only at hk
  refine bs_ [(2, zp_ b1 0), (5, sv), (9, .slice ad ps.length cap), (10, .int .i64 (ps.length : Int)), (11, .int .i64 (i : Int))] ⟨rfl, rfl, rfl, rfl, rfl, trivial⟩ ?_
  refine f_ (b_ (v_ (aN_ rfl rfl) rfl fun r1 hr1 => ?_))
  refine d_ (c_ rfl (f_ ?_))
  cases r1
  · skip
    replace hr1 := of_decide_eq_false hr1
    try dsimp only [Con.kind, Con.parts, Con.name, Con.lo, Con.hi, Con.cap, Con.ad] at hr1
    obtain rfl : i = ps.length := by omega
    obtain ⟨g, cp, cur, rfl, rfl, h3, h4, h5, h6⟩ := hk.2.some (by omega)
    rw [List.take_length] at h6
    refine r_ rfl (aU_ rfl (c_ rfl (f_ (b_ (a_ (g_ rfl) rfl (A_ (la_ (ps.map Con.operand) [32, 97, 110, 100, 32] (by simp) (jK_ (n := ps.length) (by rw [h6, List.flatMap_map])) (by simpa using h3) (by simp; omega) hl) rfl (@List.perm_append_comm _ [_, _] _) (fun v _ h => ⟨h.2.2.1, trivial⟩) rfl fun _ => ?_))))))
    refine a_ (e_ rfl) rfl (d_ (c_ rfl (B_ ?_)))
    exact aj_ Tryz.results102 () (cf_ rfl (by rw [Con.text_eq]; simp [Con.kind, Con.parts, hk0])) (.refl _) (fun _ _ _ => trivial)
  · skip
    replace hr1 := of_decide_eq_true hr1
    try dsimp only [Con.kind, Con.parts, Con.name, Con.lo, Con.hi, Con.cap, Con.ad] at hr1
    have hlt : i < ps.length := by omega
    obtain ⟨p, hp⟩ : ∃ p, ps[i]? = some p := ⟨_, List.getElem?_eq_getElem hlt⟩
    have hpm : p ∈ ps := List.mem_of_getElem? hp
    refine p_ rfl (D_ (c_ rfl (f_ (T_ (f_ (b_ (a_ (am_ P_ k_ rfl rfl (fun v _ h => aS_ (n := 5) Con.cells_len (by decide) (((Con.mem_iff (.mk k nm lo hi ad cap ps) v).1 h.1).1) hp) (by omega) (by first | omega | (simp only [Con.parts]; omega) | (simp [Con.parts]; done))) rfl (a_ (aH_ (ad := ad) (us := p.cells) x_ k_ rfl (fun v _ h => ((Con.mem_iff (.mk k nm lo hi ad cap ps) v).1 h.1).1) (Con.cells_len _) (ao_ Con.cells_len hp)) rfl (an_ aw_ rfl fun b3 => ?_)))))))))
    refine dw_ 0 k_ rfl rfl rfl rfl (d_ (c_ rfl (b_ (a_ (g_ rfl) rfl (a_ (G_ 2 jf_ fn_ rfl rfl rfl) rfl (a_ (cs_ 0 x_ k_ rfl rfl) rfl (A_ (hop p hpm) rfl (.refl _) (fun v _ h => ⟨Con.mem_part (c := (.mk k nm lo hi ad cap ps)) h.1 hpm, h.2.1, h.2.2.1, trivial⟩) rfl fun _ => ?_)))))))
    refine X_ J_ z_ co_ rfl rfl rfl rfl rfl rfl fun b4 => ?_
    refine dx_ elt39 hk.2 rfl rfl (@List.perm_append_comm _ [_, _, _, _] _) rfl (fB_ 0 rfl) (fD_ rfl) (by simp only [maxLen]; omega) (by omega) rfl fun sv2 Hr2 hrow => ?_
    refine Y_ (@List.perm_append_comm _ _ [_, _, _, _]) (a_ (e_ rfl) rfl (d_ (c_ rfl (b_ (a_ (R_ rfl rfl rfl (aq_ (by omega) (by omega))) rfl (a_ (g_ rfl) rfl (d_ (o_ rfl ?_))))))))
    exact av_ ⟨(i + 1, sv2, Hr2), hlt, by rw [Con.take_snoc hp, List.flatMap_append]; exact hrow⟩ (by simp; omega) ⟨rfl, rfl, rfl, rfl, rfl, trivial⟩ (F := [_, _]) (@List.perm_append_comm _ [_, _] _) (fun _ _ h => h)
theorem lB_ (c : Con) (m n : Nat) (hk0 : c.kind = 6) (hps : c.parts.length = 1) (hl : c.text.length ≤ 140737488355328) (hop : ∀ p ∈ c.parts, Tri Tryz.prog 142 #[prV m n, p.val] [] [p.memF, prF m, bH_] (fun _ : Unit => str p.operand) (fun _ => []) (fun _ => [])) : Tri Tryz.prog 103 #[prV m n, c.val] [] [c.memF, prF m, bH_] (fun _ : Unit => str c.text) (fun _ => []) (fun _ => []) := by
  obtain ⟨k, nm, lo, hi, ad, cap, ps⟩ := c
  simp only [Con.kind, Con.parts] at hk0 hps hop
  obtain ⟨p, rfl⟩ := List.length_eq_one_iff.1 hps
  have hp : [p][0]? = some p := rfl
  have hpm : p ∈ [p] := List.mem_singleton.2 rfl
  have ht : (Con.mk k nm lo hi ad cap [p]).text = Lib.join [[115, 111, 109, 101], nm, p.operand] [32] := by rw [Con.text_eq]; simp [Con.kind, Con.parts, Con.name, hk0]
  rw [ht] at hl
  refine M_ Tryz.func103 rfl rfl Tryz.ntmps103 rfl fun v0 => ?_
  refine f_ (b_ (aI_ rfl rfl fun b1 => ?_))
  refine aI_ rfl rfl fun b2 => ?_
  refine a_ (e_ rfl) rfl (d_ (c_ rfl (f_ ?_)))
  refine br_ (by kernel_rfl) ?_
  refine ab_ 4 [0, 1, 2, 3, 4, 5, 6] (by kernel_rfl) (fun _ a b => ⟨a, b⟩) (s_ rfl (m_ C_ rfl rfl rfl z_) rfl (s_ rfl (t_ 0 E_ rfl rfl rfl) rfl (s_ rfl (G_ 1 jf_ fn_ rfl rfl rfl) rfl (s_ rfl (m_ C_ rfl rfl rfl bc_) rfl (s_ rfl (t_ 0 bt_ rfl rfl rfl) rfl (s_ rfl (am_ P_ k_ rfl rfl (fun v _ h => aS_ (n := 5) Con.cells_len (by decide) (((Con.mem_iff (.mk k nm lo hi ad cap [p]) v).1 h.1).1) hp) (by omega) (by first | omega | (simp only [Con.parts]; omega) | (simp [Con.parts]; done))) rfl (s_ rfl (aH_ (ad := ad) (us := p.cells) x_ k_ rfl (fun v _ h => ((Con.mem_iff (.mk k nm lo hi ad cap [p]) v).1 h.1).1) (Con.cells_len _) (ao_ Con.cells_len hp)) rfl (aa_ (H_ 7 rfl (by kernel_rfl) ?_)))))))))
  refine A_ (hop p hpm) rfl (.refl _) (fun v _ h => ⟨Con.mem_part (c := .mk k nm lo hi ad cap [p]) h.1 hpm, h.2.1, h.2.2.1, trivial⟩) rfl fun _ => ?_
  refine d_ (o_ rfl (u_ (fun _ a b => ⟨a, b⟩) (H_ 8 rfl (by kernel_rfl) (X_ J_ z_ co_ rfl rfl rfl rfl rfl rfl fun b3 => ?_))))
  refine d_ (o_ rfl (u_ (fun _ a b => ⟨a.tail, b⟩) (H_ 9 rfl (by kernel_rfl) (A_ (jm_ [[115, 111, 109, 101], nm, p.operand] rfl (jo_ _) (by simp) hl) rfl (.refl _) (fun v _ h => ⟨h.2.2.1, trivial⟩) rfl fun _ => ?_))))
  refine d_ (o_ rfl (u_ (fun _ a b => ⟨a.tail, b⟩) (ab_ 0 [10] (by kernel_rfl) (fun _ a b => ⟨a.tail, b⟩) (s_ rfl (e_ rfl) rfl (aa_ (ad_ (by kernel_rfl) (c_ rfl (B_ ?_))))))))
  exact aj_ Tryz.results103 () (cf_ rfl ht.symm) (.refl _) (fun _ _ _ => trivial)
theorem lA_ (c : Con) (m n : Nat) (hk0 : c.kind = 7) (hok : c.ok) (hl : c.text.length ≤ 140737488355328) : Tri Tryz.prog 104 #[prV m n, c.val] [] [c.memF, prF m, bH_] (fun _ : Unit => str c.text) (fun _ => []) (fun _ => []) := by
  obtain ⟨k, nm, lo, hi, ad, cap, ps⟩ := c
  simp only [Con.kind] at hk0
  obtain ⟨_, _, _, l1, l2, h1, h2, _⟩ := hok
  have ht : (Con.mk k nm lo hi ad cap ps).text = Lib.join [nm, [105, 110], Lib.itoa lo, [116, 111], Lib.itoa hi] [32] := by rw [Con.text_eq]; simp [Con.kind, Con.name, Con.lo, Con.hi, hk0]
  rw [ht] at hl
  refine M_ Tryz.func104 rfl rfl Tryz.ntmps104 rfl fun v0 => ?_
  refine f_ (b_ (aI_ rfl rfl fun b1 => ?_))
  refine aI_ rfl rfl fun b2 => ?_
  refine a_ (e_ rfl) rfl (d_ (c_ rfl (f_ ?_)))
  refine br_ (by kernel_rfl) ?_
  refine ab_ 5 [0, 1, 2, 3, 5, 6] (by kernel_rfl) (fun _ a b => ⟨a, b⟩) (s_ rfl (m_ C_ rfl rfl rfl z_) rfl (s_ rfl (t_ 0 E_ rfl rfl rfl) rfl (s_ rfl (m_ C_ rfl rfl rfl L_) rfl (s_ rfl (t_ 0 O_ rfl rfl rfl) rfl (s_ rfl (m_ C_ rfl rfl rfl L_) rfl (s_ rfl (t_ 0 O_ rfl rfl rfl) rfl (aa_ (H_ 4 rfl (by kernel_rfl) (A_ (lb_ _ l1 l2) rfl (.refl _) (fun v _ h => ⟨h.2.2.1, trivial⟩) rfl fun _ => ?_)))))))))
  refine d_ (o_ rfl (u_ (fun _ a b => ⟨a, b⟩) (H_ 7 rfl (by kernel_rfl) (A_ (lb_ _ h1 h2) rfl (.refl _) (fun v _ h => ⟨h.2.2.1, trivial⟩) rfl fun _ => ?_))))
  refine d_ (o_ rfl (u_ (fun _ a b => ⟨a, b⟩) (H_ 8 rfl (by kernel_rfl) (X_ J_ z_ co_ rfl rfl rfl rfl rfl rfl fun b3 => ?_))))
  refine d_ (o_ rfl (u_ (fun _ a b => ⟨a.tail, b⟩) (H_ 9 rfl (by kernel_rfl) (A_ (jm_ [nm, [105, 110], Lib.itoa lo, [116, 111], Lib.itoa hi] rfl (jo_ _) (by simp) hl) rfl (.refl _) (fun v _ h => ⟨h.2.2.1, trivial⟩) rfl fun _ => ?_))))
  refine d_ (o_ rfl (u_ (fun _ a b => ⟨a.tail, b⟩) (ab_ 0 [10] (by kernel_rfl) (fun _ a b => ⟨a.tail, b⟩) (s_ rfl (e_ rfl) rfl (aa_ (ad_ (by kernel_rfl) (c_ rfl (B_ ?_))))))))
  exact aj_ Tryz.results104 () (cf_ rfl ht.symm) (.refl _) (fun _ _ _ => trivial)
theorem lz_ (m n : Nat) : ∀ (d : Nat) (c : Con), c.sz ≤ d → c.sz ≤ 64 → c.ok → c.fine → Tri Tryz.prog 60 #[prV m n, c.val] [] [c.memF, prF m, bH_] (fun _ : Unit => str c.text) (fun _ => []) (fun _ => []) := by
  intro d
  induction d with
  | zero => intro c h; have := c.sz_pos; omega
  | succ d ih =>
    intro c hd h64 hok hf
    have F := Con.fields hf
    have hl := Con.text_len _ c (Nat.le_refl _) hok hf
    have hop : ∀ p ∈ c.parts, Tri Tryz.prog 142 #[prV m n, p.val] [] [p.memF, prF m, bH_] (fun _ : Unit => str p.operand) (fun _ => []) (fun _ => []) := fun p hp => by
      have hz := Con.sz_part hp
      have hl := Con.text_len _ p (Nat.le_refl _) (Con.ok_part hok hp) (Con.fine_part hf hp)
      exact iW_ p m n (by omega) (ih p (by omega) (by omega) (Con.ok_part hok hp) (Con.fine_part hf hp))
    have h1 := F.k1
    have h7 := F.k7
    have hm := F.mo
    have he := F.le
    have hk : c.kind = 1 ∨ c.kind = 2 ∨ c.kind = 3 ∨ c.kind = 4 ∨ c.kind = 5 ∨ c.kind = 6 ∨ c.kind = 7 := by omega
    rcases hk with hk | hk | hk | hk | hk | hk | hk
    · exact dT_ c m n (by rw [hk]; exact ba_ Q_ rfl) (pr_top c m n hk)
    · exact dT_ c m n (by rw [hk]; exact ba_ Q_ rfl) (jU_ c m n hk)
    · exact dT_ c m n (by rw [hk]; exact ba_ Q_ rfl) (kM_ c m n hk)
    · exact dT_ c m n (by rw [hk]; exact ba_ Q_ rfl) (iX_ c m n hk F.nm)
    · have ht : c.text = Lib.join (c.parts.map Con.operand) [32, 97, 110, 100, 32] := by rw [Con.text_eq]; simp [hk]
      rw [hk] at hm he
      simp [nd, eS_] at hm he
      exact dT_ c m n (by rw [hk]; exact ba_ Q_ rfl) (pr_and c m n hk ⟨by omega, by omega⟩ (by rw [← ht]; omega) hop)
    · rw [hk] at hm he
      simp [nd, eS_] at hm he
      exact dT_ c m n (by rw [hk]; exact ba_ Q_ rfl) (lB_ c m n hk (by omega) (by omega) hop)
    · exact dT_ c m n (by rw [hk]; exact ba_ Q_ rfl) (lA_ c m n hk hok (by omega))
end Go.Proofs.YtoafjmalfclpoaaGreatDoor
namespace Go.Proofs.YtoafjmalfclpoaaGreatDoor
open Go Go.Sx Go.Proofs
attribute [local irreducible] Code.wp wpList wpAnyH
open Go.Vs
theorem ih_ (c : Con) (hok : c.ok) : Tri Tryz.prog 23 #[c.val] [] [c.memF, bH_] (fun _ : Unit => .tuple #[str c.textN, .int .i64 c.check]) (fun _ => []) (fun _ => []) := by
  obtain ⟨k, nm, lo, hi, ad, cap, ps⟩ := c
  refine M_ Tryz.func23 rfl rfl Tryz.ntmps23 rfl fun v0 => ?_
  refine f_ (b_ (aI_ rfl rfl fun b1 => ?_))
  refine a_ (e_ rfl) rfl (a_ (e_ rfl) rfl (d_ (c_ rfl (f_ (f_ (b_ (a_ (G_ 0 x_ k_ rfl rfl rfl) rfl (A_ (dq_ (.mk k nm lo hi ad cap ps) hok) rfl (.refl _) (fun v _ h => ⟨h.1, h.2.1, trivial⟩) rfl fun _ => ?_))))))))
  refine a_ (e_ rfl) rfl (d_ (c_ rfl (f_ (b_ (a_ (g_ rfl) rfl (v_ (bO_ rfl rfl) rfl fun r1 hr1 => ?_))))))
  refine d_ (c_ rfl ?_)
  cases r1
  · skip
    replace hr1 := bA_ hr1
    try dsimp only [Con.kind, Con.parts, Con.name, Con.lo, Con.hi, Con.cap, Con.ad] at hr1
    obtain ⟨hfine, h64⟩ := Con.check_zero hr1
    refine r_ rfl (D_ (c_ rfl (f_ ?_)))
    refine br_ (by kernel_rfl) ?_
    refine ab_ 4 [1] (by kernel_rfl) (fun _ a b => ⟨a, b⟩) (s_ rfl (G_ 0 x_ k_ rfl rfl rfl) rfl (aa_ (H_ 0 rfl (by kernel_rfl) (A_ (hA_) rfl (.refl _) (fun _ _ _ => trivial) rfl fun q => ?_))))
    refine d_ (o_ rfl (u_ (fun _ a b => ⟨a, b.2⟩) (H_ 2 rfl (by kernel_rfl) (A_ (lz_ q.1 q.2 _ (.mk k nm lo hi ad cap ps) (Nat.le_refl _) h64 hok hfine) rfl (.refl _) (fun v _ h => ⟨h.2.1, h.1, h.2.2.1, trivial⟩) rfl fun _ => ?_))))
    refine d_ (o_ rfl (u_ (fun _ a b => ⟨a, b.2⟩) (ab_ 0 [3, 4] (by kernel_rfl) (fun _ a b => ⟨a, b.2⟩) (s_ rfl (e_ rfl) rfl (s_ rfl (e_ rfl) rfl (aa_ (ad_ (by kernel_rfl) (c_ rfl (B_ ?_)))))))))
    exact iU_ Tryz.results23 () rfl rfl (by simp [Con.textN, *] <;> rfl) (.refl _) (fun _ _ _ => trivial)
  · skip
    replace hr1 := bz_ hr1
    try dsimp only [Con.kind, Con.parts, Con.name, Con.lo, Con.hi, Con.cap, Con.ad] at hr1
    refine p_ rfl (f_ (b_ (a_ (g_ rfl) rfl (a_ (e_ rfl) rfl (a_ (e_ rfl) rfl (d_ (c_ rfl (B_ ?_))))))))
    exact iU_ Tryz.results23 () rfl rfl (by simp [Con.textN, *] <;> rfl) (.refl _) (fun _ _ _ => trivial)
theorem hC_ (c : Con) (hok : c.ok) : Tri Tryz.prog 89 #[c.val] [] [c.memF, bH_] (fun _ : Unit => str c.textN) (fun _ => []) (fun _ => []) := by
  obtain ⟨k, nm, lo, hi, ad, cap, ps⟩ := c
  refine M_ Tryz.func89 rfl rfl Tryz.ntmps89 rfl fun v0 => ?_
  refine f_ (b_ (aI_ rfl rfl fun b1 => ?_))
  refine a_ (e_ rfl) rfl (d_ (c_ rfl (f_ (b_ (a_ (G_ 0 x_ k_ rfl rfl rfl) rfl (A_ (ih_ (.mk k nm lo hi ad cap ps) hok) rfl (.refl _) (fun v _ h => h) rfl fun _ => ?_))))))
  refine a_ (g_ rfl) rfl (a_ (aD_ rfl rfl) rfl (a_ (aD_ rfl rfl) rfl (a_ (e_ rfl) rfl (a_ (e_ rfl) rfl (d_ (c_ rfl (f_ (b_ (a_ (g_ rfl) rfl ?_)))))))))
  refine a_ (e_ rfl) rfl (d_ (c_ rfl (B_ ?_)))
  exact aj_ Tryz.results89 () rfl (.refl _) (fun _ _ _ => trivial)
theorem gJ_ (c : Con) (hok : c.ok) : Tri Tryz.prog 51 #[c.val] [] [c.memF, bH_] (fun _ : Unit => str c.operandN) (fun _ => []) (fun _ => []) := by
  obtain ⟨k, nm, lo, hi, ad, cap, ps⟩ := c
  refine M_ Tryz.func51 rfl rfl Tryz.ntmps51 rfl fun v0 => ?_
  refine f_ (b_ (aI_ rfl rfl fun b1 => ?_))
  refine a_ (e_ rfl) rfl (d_ (c_ rfl (f_ (f_ (b_ (a_ (m_ C_ rfl rfl rfl L_) rfl (a_ (t_ 0 O_ rfl rfl rfl) rfl (v_ (ai_ rfl rfl) rfl fun r1 hr1 => ?_))))))))
  refine d_ (c_ rfl ?_)
  cases r1
  · skip
    replace hr1 := ne_of_beq_false hr1
    try dsimp only [Con.kind, Con.parts, Con.name, Con.lo, Con.hi, Con.cap, Con.ad] at hr1
    refine r_ rfl (D_ (c_ rfl (f_ (b_ (a_ (G_ 0 x_ k_ rfl rfl rfl) rfl (A_ (hC_ (.mk k nm lo hi ad cap ps) hok) rfl (.refl _) (fun v _ h => h) rfl fun _ => ?_))))))
    refine a_ (e_ rfl) rfl (d_ (c_ rfl (B_ ?_)))
    exact aj_ Tryz.results51 () (cf_ rfl (by unfold Con.operandN; simp only [Con.kind, Con.name] at *; simp [*])) (.refl _) (fun _ _ _ => trivial)
  · skip
    replace hr1 := eq_of_beq hr1
    try dsimp only [Con.kind, Con.parts, Con.name, Con.lo, Con.hi, Con.cap, Con.ad] at hr1
    refine p_ rfl (f_ (b_ (a_ (G_ 0 x_ k_ rfl rfl rfl) rfl (A_ (hC_ (.mk k nm lo hi ad cap ps) hok) rfl (.refl _) (fun v _ h => h) rfl fun _ => ?_))))
    refine a_ (cm_ rfl rfl (by have := Con.textN_len hok; simp only [List.length_append, List.length_cons, List.length_nil]; omega)) rfl (a_ (cm_ rfl rfl (by have := Con.textN_len hok; simp only [List.length_append, List.length_cons, List.length_nil]; omega)) rfl (a_ (e_ rfl) rfl (d_ (c_ rfl (B_ ?_)))))
    exact aj_ Tryz.results51 () (cf_ rfl (by unfold Con.operandN; simp only [Con.kind, Con.name] at *; simp [*])) (.refl _) (fun _ _ _ => trivial)
theorem bU_ (s : Str) (hs : s.length ≤ 140737488351232) :
    Fn0 Tryz.prog 53 #[str s] (str ([123] ++ s ++ [125])) := by
  refine M_ Tryz.func53 rfl rfl Tryz.ntmps53 rfl fun v0 => ?_
  refine f_ (b_ (a_ (e_ rfl) rfl (d_ (c_ rfl (f_ (b_ (a_ (g_ rfl) rfl (a_ (cm_ rfl rfl (by simp; omega)) rfl (a_ (cm_ rfl rfl (by simp; omega)) rfl ?_)))))))))
  refine a_ (e_ rfl) rfl (d_ (c_ rfl (B_ ?_)))
  exact aj_ Tryz.results53 () rfl (.refl _) (fun _ _ _ => trivial)
theorem bK_ (c : Con) (hok : c.ok) : Tri Tryz.prog 45 #[c.val] [] [c.memF, bH_] (fun _ : Unit => str c.atom) (fun _ => []) (fun _ => []) := by
 obtain ⟨k, nm, lo, hi, ad, cap, ps⟩ := c
 refine M_ Tryz.func45 rfl rfl Tryz.ntmps45 rfl fun v0 => ?_
 refine f_ (b_ (aI_ rfl rfl fun b1 => ?_))
 refine a_ (e_ rfl) rfl (d_ (c_ rfl (f_ (f_ (b_ (a_ (m_ C_ rfl rfl rfl L_) rfl (a_ (t_ 0 O_ rfl rfl rfl) rfl (d_ (c_ rfl ?_)))))))))
 refine T_ (f_ (b_ (v_ (ai_ rfl rfl) rfl fun r1 hr1 => ?_)))
 refine a_ (e_ rfl) rfl (d_ (c_ rfl ?_))
 cases r1
 ·
  replace hr1 := ne_of_beq_false hr1
  try dsimp only [Con.kind, Con.parts, Con.name, Con.lo, Con.hi, Con.cap, Con.ad] at hr1
  refine r_ rfl (f_ (b_ (v_ (ai_ rfl rfl) rfl fun r2 hr2 => ?_)))
  refine a_ (e_ rfl) rfl (d_ (c_ rfl ?_))
  cases r2
  ·
   replace hr2 := ne_of_beq_false hr2
   try dsimp only [Con.kind, Con.parts, Con.name, Con.lo, Con.hi, Con.cap, Con.ad] at hr2
   refine r_ rfl (f_ (b_ (v_ (ai_ rfl rfl) rfl fun r3 hr3 => ?_)))
   refine a_ (e_ rfl) rfl (d_ (c_ rfl ?_))
   cases r3
   ·
    replace hr3 := ne_of_beq_false hr3
    try dsimp only [Con.kind, Con.parts, Con.name, Con.lo, Con.hi, Con.cap, Con.ad] at hr3
    refine r_ rfl (f_ (b_ (v_ (ai_ rfl rfl) rfl fun r4 hr4 => ?_)))
    refine a_ (e_ rfl) rfl (d_ (c_ rfl ?_))
    cases r4
    ·
     replace hr4 := ne_of_beq_false hr4
     try dsimp only [Con.kind, Con.parts, Con.name, Con.lo, Con.hi, Con.cap, Con.ad] at hr4
     refine r_ rfl (D_ (c_ rfl (f_ (b_ (a_ (G_ 0 x_ k_ rfl rfl rfl) rfl (A_ (hC_ (.mk k nm lo hi ad cap ps) hok) rfl (.refl _) (fun v _ h => h) rfl fun _ => ?_))))))
     refine a_ (cm_ rfl rfl (by have := Con.textN_len hok; simp only [List.length_append, List.length_cons, List.length_nil]; omega)) rfl (a_ (cm_ rfl rfl (by have := Con.textN_len hok; simp only [List.length_append, List.length_cons, List.length_nil]; omega)) rfl (a_ (e_ rfl) rfl (d_ (c_ rfl (B_ ?_)))))
     exact aj_ kJ_ () (cf_ rfl (by unfold Con.atom; simp only [Con.kind, Con.name] at *; simp [*])) (.refl _) (fun _ _ _ => trivial)
    ·
     replace hr4 := eq_of_beq hr4
     try dsimp only [Con.kind, Con.parts, Con.name, Con.lo, Con.hi, Con.cap, Con.ad] at hr4
     refine p_ rfl (f_ (b_ (a_ (m_ C_ rfl rfl rfl z_) rfl (a_ (t_ 0 E_ rfl rfl rfl) rfl (A_ (bU_ nm (Con.ok_name hok)) rfl (.refl _) (fun _ _ _ => trivial) rfl fun _ => ?_)))))
     refine a_ (e_ rfl) rfl (d_ (c_ rfl (B_ ?_)))
     exact aj_ kJ_ () (cf_ rfl (by unfold Con.atom; simp only [Con.kind, Con.name] at *; simp [*])) (.refl _) (fun _ _ _ => trivial)
   ·
    replace hr3 := eq_of_beq hr3
    try dsimp only [Con.kind, Con.parts, Con.name, Con.lo, Con.hi, Con.cap, Con.ad] at hr3
    refine p_ rfl (f_ (b_ (a_ (m_ C_ rfl rfl rfl z_) rfl (a_ (t_ 0 E_ rfl rfl rfl) rfl (a_ (e_ rfl) rfl (d_ (c_ rfl (B_ ?_))))))))
    exact aj_ kJ_ () (cf_ rfl (by unfold Con.atom; simp only [Con.kind, Con.name] at *; simp [*])) (.refl _) (fun _ _ _ => trivial)
  ·
   replace hr2 := eq_of_beq hr2
   try dsimp only [Con.kind, Con.parts, Con.name, Con.lo, Con.hi, Con.cap, Con.ad] at hr2
   refine p_ rfl (f_ (b_ (a_ (e_ rfl) rfl (d_ (c_ rfl (B_ ?_))))))
   exact aj_ kJ_ () (cf_ rfl (by unfold Con.atom; simp only [Con.kind, Con.name] at *; simp [*])) (.refl _) (fun _ _ _ => trivial)
 ·
  replace hr1 := eq_of_beq hr1
  try dsimp only [Con.kind, Con.parts, Con.name, Con.lo, Con.hi, Con.cap, Con.ad] at hr1
  refine p_ rfl (f_ (b_ (a_ (e_ rfl) rfl (d_ (c_ rfl (B_ ?_))))))
  exact aj_ kJ_ () (cf_ rfl (by unfold Con.atom; simp only [Con.kind, Con.name] at *; simp [*])) (.refl _) (fun _ _ _ => trivial)
end Go.Proofs.YtoafjmalfclpoaaGreatDoor
namespace Go.Proofs.YtoafjmalfclpoaaGreatDoor
open Go Go.Sx Go.Proofs
attribute [local irreducible] Code.wp wpList wpAnyH
open Go.Vs
theorem eqPc (p q : Pc) (w : World) : (Op.equalIn 10000 31 p.val q.val).run Tryz.prog w = .ok (decide (p = q)) w := by
  have h := run_equalIn_struct (P := Tryz.prog) w 9999 31 p.cells.toArray q.cells.toArray (by simp only [Program.fieldsOf, eN_]) Tryz.stoodInHeld31
  refine h.trans ?_
  rw [← Pc.eqb_eq]
  simp only [Program.fieldsOf, eN_]
  exact bP_ rfl O_ rfl rfl (eqI Q_ w) (bP_ rfl E_ rfl rfl (eqS be_ w) (bP_ rfl E_ rfl rfl (eqS be_ w) (bP_ rfl E_ rfl rfl (eqS be_ w) (bP_ rfl E_ rfl rfl (eqS be_ w) (bP_ rfl E_ rfl rfl (eqS be_ w) (bP_ rfl E_ rfl rfl (eqS be_ w) (bP_ rfl O_ rfl rfl (eqI Q_ w) (bP_ rfl O_ rfl rfl (eqI Q_ w) (bP_ rfl O_ rfl rfl (eqI Q_ w) (hN_ w))))))))))
theorem eqFc (p q : Fc) (w : World) : (Op.equalIn 10000 50 p.val q.val).run Tryz.prog w = .ok (decide (p = q)) w := by
  have h := run_equalIn_struct (P := Tryz.prog) w 9999 50 p.cells.toArray q.cells.toArray (by simp only [Program.fieldsOf, Tryz.underlying50]) Tryz.stoodInHeld50
  refine h.trans ?_
  rw [← Fc.eqb_eq]
  simp only [Program.fieldsOf, Tryz.underlying50]
  exact bP_ rfl O_ rfl rfl (eqI Q_ w) (bP_ rfl E_ rfl rfl (eqS be_ w) (bP_ rfl E_ rfl rfl (eqS be_ w) (bP_ rfl E_ rfl rfl (eqS be_ w) (bP_ rfl O_ rfl rfl (eqI Q_ w) (bP_ rfl O_ rfl rfl (eqI Q_ w) (hN_ w))))))
theorem kZ_ (p : Pc) : fY_ Tryz.prog 31 p.val := fun e w => by
  have hi : ∀ (n : Int) (w : World), (Instr.checkKey e (9998 + 1) 3 (.int .i64 n)).run Tryz.prog w = .ok () w := fun n w => MapKept.run_checkKey (d := .int .i64) Q_ (by simp [MapKept.IsKey]) e 9998
  have hs : ∀ (n : Str) (w : World), (Instr.checkKey e (9998 + 1) 9 (str n)).run Tryz.prog w = .ok () w := fun n w => MapKept.run_checkKey (d := .string) be_ (by simp [MapKept.IsKey, str]) e 9998
  refine ckF (n := 9999) eN_ fun f hf => ?_
  simp only [List.mem_cons, List.not_mem_nil, or_false] at hf
  rcases hf with rfl | rfl | rfl | rfl | rfl | rfl | rfl | rfl | rfl | rfl
  · exact ⟨rfl, O_, _, rfl, hi _⟩
  · exact ⟨rfl, E_, _, rfl, hs _⟩
  · exact ⟨rfl, E_, _, rfl, hs _⟩
  · exact ⟨rfl, E_, _, rfl, hs _⟩
  · exact ⟨rfl, E_, _, rfl, hs _⟩
  · exact ⟨rfl, E_, _, rfl, hs _⟩
  · exact ⟨rfl, E_, _, rfl, hs _⟩
  · exact ⟨rfl, O_, _, rfl, hi _⟩
  · exact ⟨rfl, O_, _, rfl, hi _⟩
  · exact ⟨rfl, O_, _, rfl, hi _⟩
theorem lg_ : Elt Tryz.prog 25 31 10 128 := hn_ Tryz.underlying25 (z := .agg (Pc.mk 0 [] [] [] [] [] [] 0 0 0).cells.toArray) (by kernel_rfl) rfl (by decide)
theorem by_ : gW_ Tryz.prog 31 [(0, 1), (1, 1), (2, 1), (3, 1), (4, 1), (5, 1), (6, 1), (7, 1), (8, 1), (9, 1)] [.int .i64 0, str [], str [], str [], str [], str [], str [], .int .i64 0, .int .i64 0, .int .i64 0] := ⟨_, af_, V_, fun w => by simp [L_, z_]⟩
theorem iQ_ : gW_ Tryz.prog 50 [(0, 1), (1, 1), (2, 1), (3, 1), (4, 1), (5, 1)] [.int .i64 0, str [], str [], str [], .int .i64 0, .int .i64 0] := ⟨_, cI_, Tryz.runUnderlying50, fun w => by simp [L_, z_]⟩
end Go.Proofs.YtoafjmalfclpoaaGreatDoor
namespace Go.Proofs.YtoafjmalfclpoaaGreatDoor
open Go Go.Sx Go.Proofs
attribute [local irreducible] Code.wp wpList wpAnyH
open Go.Vs
structure CS where
  sv : Value
  bm : Nat
  es : Array MapEntry
  clk : Nat
  Hr : Hp
def dD_ (kb : Nat) (frm : Int) (q : CS) : Hp := (kb, .cells #[.int .i64 frm, q.sv, .map (some q.bm)] 74 (0, 0)) :: (q.bm, .map q.es q.clk) :: q.Hr
structure CInv (l : List Pc) (q : CS) : Prop where
  row : bk_ 31 10 q.sv l.length (l.flatMap Pc.cells) q.Hr
  keys : q.es.toList.map (·.key) = l.map Pc.val
  vals : ∀ x ∈ q.es.toList, x.val = .bool true
theorem CInv.push {l : List Pc} {p : Pc} {sv sv2 : Value} {bm clk : Nat} {es : Array MapEntry} {Hr Hr2 : Hp} (h : CInv l ⟨sv, bm, es, clk, Hr⟩) (hr : bk_ 31 10 sv2 (l.length + 1) (l.flatMap Pc.cells ++ p.cells) Hr2) : CInv (l ++ [p]) ⟨sv2, bm, es.push ⟨p.val, .bool true, clk⟩, clk + 1, Hr2⟩ := by
  refine ⟨?_, ?_, ?_⟩
  · simpa [List.flatMap_append] using hr
  · have := h.keys
    simp only at this
    simp [this]
  · intro x hx
    simp only [Array.toList_push, List.mem_append, List.mem_singleton] at hx
    rcases hx with hx | rfl
    · exact h.vals x hx
    · rfl
theorem cw_ (p : Pc) {kb bn : Nat} (frm : Int) (l : List Pc) (q : CS) (hq : CInv l q) (hlen : l.length ≤ 100000) :
  Tri Tryz.prog 52 #[zp_ kb 0, .slice (some ⟨bn, 0, none⟩) 1 1] ((bn, .cells p.cells.toArray 31 (0, 0)) :: dD_ kb frm q) [] (fun _ : {q' : CS // CInv (ins frm l p) q'} => .tuple #[]) (fun q' => dD_ kb frm q'.1) (fun _ => []) := by
 obtain ⟨k, a, b, c, r, s, t, lo, hi, f⟩ := p
 obtain ⟨sv, bm, es, clk, Hr⟩ := q
 refine M_ Tryz.func52 rfl rfl Tryz.ntmps52 rfl fun v0 => ?_
 refine f_ (b_ (a_ (g_ rfl) rfl (a_ (ar_ I_ rfl) rfl (a_ (g_ rfl) rfl (d_ (c_ rfl (T_ (bs_ [(0, zp_ kb 0), (6, .slice (some ⟨bn, 0, none⟩) 1 1), (7, .int .i64 1), (8, .int .i64 ((0 : Nat) : Int))] ⟨rfl, rfl, rfl, rfl, trivial⟩ ?_))))))))
 refine bE_ (ι := {x : Nat × CS // (x.1 = 0 ∧ x.2 = ⟨sv, bm, es, clk, Hr⟩) ∨ (x.1 = 1 ∧ CInv (ins frm l ⟨k, a, b, c, r, s, t, lo, hi, f⟩) x.2)}) (fun x => [(0, zp_ kb 0), (6, .slice (some ⟨bn, 0, none⟩) 1 1), (7, .int .i64 1), (8, .int .i64 (x.1.1 : Int))]) (fun x => _ :: dD_ kb frm x.1.2) (fun _ => _) (fun x => 1 - x.1.1) ⟨(0, ⟨sv, bm, es, clk, Hr⟩), .inl ⟨rfl, rfl⟩⟩ ?_
 rintro ⟨⟨i, q1⟩, hk⟩
 dsimp only at hk
 rcases hk with ⟨rfl, rfl⟩ | ⟨rfl, hc⟩
 ·
  refine bs_ [(0, zp_ kb 0), (6, .slice (some ⟨bn, 0, none⟩) 1 1), (7, .int .i64 1), (8, .int .i64 0)] ⟨rfl, rfl, rfl, rfl, trivial⟩ ?_
  refine f_ (b_ (v_ (aN_ rfl rfl) rfl fun r1 hr1 => ?_))
  refine d_ (c_ rfl (f_ ?_))
  cases r1
  ·
   replace hr1 := of_decide_eq_false hr1
   try dsimp only [Con.kind, Con.parts, Con.name, Con.lo, Con.hi, Con.cap, Con.ad] at hr1
   exact absurd (by decide) hr1
  ·
   replace hr1 := of_decide_eq_true hr1
   try dsimp only [Con.kind, Con.parts, Con.name, Con.lo, Con.hi, Con.cap, Con.ad] at hr1
   refine p_ rfl (D_ (c_ rfl (f_ (T_ (f_ (b_ (a_ (ej_ I_ U_ rfl rfl (by decide) (by decide)) rfl (a_ (G_ 0 dZ_ U_ rfl rfl rfl) rfl (an_ af_ rfl fun b1 => ?_)))))))))
   refine ah_ 0 U_ rfl rfl rfl rfl rfl rfl (d_ (c_ rfl (f_ (b_ (a_ (g_ rfl) rfl (a_ (bv_ rfl) rfl (a_ (m_ aJ_ rfl rfl rfl L_) rfl (a_ (t_ 2 O_ rfl rfl rfl) rfl (a_ (m_ V_ rfl rfl rfl L_) rfl ?_)))))))))
   refine ah_ 0 L_ rfl rfl rfl rfl rfl rfl (d_ (c_ rfl (f_ ?_)))
   by_cases hm : (⟨k, a, b, c, r, s, t, lo, hi, frm⟩ : Pc) ∈ l
   ·
    obtain ⟨j, hf⟩ := (eJ_ eN_ (fun p q w => eqPc p q w) (⟨k, a, b, c, r, s, t, lo, hi, frm⟩ : Pc) l es.toList hq.keys).2 hm hq.vals
    refine br_ (by kernel_rfl) ?_
    refine ab_ 0 [0, 1, 2, 3, 4, 5, 6] (by kernel_rfl) (fun _ a b => ⟨a, b⟩) (s_ rfl (g_ rfl) rfl (s_ rfl (bv_ rfl) rfl (s_ rfl (m_ aJ_ rfl rfl rfl Tryz.sizeOf72) rfl (s_ rfl (t_ 2 Tryz.isAgg72 rfl rfl rfl) rfl (s_ rfl (G_ 0 dZ_ U_ rfl rfl rfl) rfl (s_ rfl (dR_ Tryz.runUnderlying72 rfl rfl (fun v h _ => (h.own _ (List.mem_of_getElem? (i := 3) rfl)).1) (kZ_ (⟨k, a, b, c, r, s, t, lo, hi, frm⟩ : Pc)) hf) rfl (s_ rfl (bf_ rfl) rfl (aa_ (ad_ (by kernel_rfl) ?_)))))))))
    refine c_ rfl (r_ rfl (D_ (c_ rfl (b_ (a_ (R_ rfl rfl rfl (aq_ (by omega) (by omega))) rfl (a_ (g_ rfl) rfl (d_ (o_ rfl ?_))))))))
    exact av_ ⟨(1, ⟨sv, bm, es, clk, Hr⟩), .inr ⟨rfl, by simp only [ins, if_pos hm]; exact hq⟩⟩ Nat.zero_lt_one ⟨rfl, rfl, rfl, rfl, trivial⟩ (F := [_]) (@List.perm_append_comm _ [_] _) (fun _ _ h => h)
   ·
    have hf := (eJ_ eN_ (fun p q w => eqPc p q w) (⟨k, a, b, c, r, s, t, lo, hi, frm⟩ : Pc) l es.toList hq.keys).1 hm
    refine br_ (by kernel_rfl) ?_
    refine ab_ 0 [0, 1, 2, 3, 4, 5, 6] (by kernel_rfl) (fun _ a b => ⟨a, b⟩) (s_ rfl (g_ rfl) rfl (s_ rfl (bv_ rfl) rfl (s_ rfl (m_ aJ_ rfl rfl rfl Tryz.sizeOf72) rfl (s_ rfl (t_ 2 Tryz.isAgg72 rfl rfl rfl) rfl (s_ rfl (G_ 0 dZ_ U_ rfl rfl rfl) rfl (s_ rfl (dl_ Tryz.runUnderlying72 Tryz.zeroValue4 rfl rfl (fun v h _ => (h.own _ (List.mem_of_getElem? (i := 3) rfl)).1) (kZ_ (⟨k, a, b, c, r, s, t, lo, hi, frm⟩ : Pc)) hf) rfl (s_ rfl (bf_ rfl) rfl (aa_ (ad_ (by kernel_rfl) ?_)))))))))
    refine c_ rfl (p_ rfl (f_ ?_))
    refine aW_ [(b1, .cells #[.int .i64 k, str a, str b, str c, str r, str s, str t, .int .i64 lo, .int .i64 hi, .int .i64 frm] 31 (0, 0)), (bn, .cells #[.int .i64 k, str a, str b, str c, str r, str s, str t, .int .i64 lo, .int .i64 hi, .int .i64 f] 31 (0, 0)), (kb, .cells #[.int .i64 frm, sv, .map (some bm)] 74 (0, 0))] (by kernel_rfl) ?_
    refine ab_ 1 [0, 1, 2, 3, 4] (by kernel_rfl) (fun _ a b => ⟨Vw.sat.sub a, b⟩) (s_ rfl (g_ rfl) rfl (s_ rfl (bv_ rfl) rfl (s_ rfl (m_ aJ_ rfl rfl rfl Tryz.sizeOf72) rfl (s_ rfl (t_ 2 Tryz.isAgg72 rfl rfl rfl) rfl (s_ rfl (G_ 0 dZ_ U_ rfl rfl rfl) rfl (aa_ (H_ 5 rfl (by kernel_rfl) (bg_ 3 (.inr rfl) Tryz.runUnderlying72 rfl rfl rfl rfl (kZ_ (⟨k, a, b, c, r, s, t, lo, hi, frm⟩ : Pc)) hf (d_ ?_)))))))))
    refine o_ rfl (u_ (fun _ a b => ⟨Vw.sat.sub a, b⟩) (ad_ (by kernel_rfl) (c_ rfl ?_)))
    refine aW_ [(b1, .cells #[.int .i64 k, str a, str b, str c, str r, str s, str t, .int .i64 lo, .int .i64 hi, .int .i64 frm] 31 (0, 0))] (by kernel_rfl) ?_
    refine ab_ 6 [0, 1, 2, 3, 5] (by kernel_rfl) (fun _ a b => ⟨Vw.sat.sub a, b⟩) (s_ rfl (g_ rfl) rfl (s_ rfl (g_ rfl) rfl (s_ rfl (bv_ rfl) rfl (s_ rfl (m_ aJ_ rfl rfl rfl bW_) rfl (s_ rfl (G_ 0 dZ_ U_ rfl rfl rfl) rfl (aa_ ?_))))))
    refine cg_ 4 6 rfl rfl (by kernel_rfl) ?_ ?_
    ·
     refine a_ (t_ 2 dy_ rfl rfl rfl) rfl (d_ (o_ rfl (u_ (fun _ a b => ⟨Vw.sat.sub a, b⟩) (H_ 6 rfl (by kernel_rfl) (X_ I_ U_ af_ rfl rfl rfl rfl rfl rfl fun b2 => ?_)))))
     refine d_ (o_ rfl (u_ (fun _ a b => ⟨Vw.sat.sub a.tail, b⟩) (H_ 7 rfl (by kernel_rfl) (dx_ (news := Pc.cells (⟨k, a, b, c, r, s, t, lo, hi, frm⟩ : Pc)) lg_ hq.row rfl rfl (@List.perm_append_comm _ [_, _, _, _, _] _) rfl (fB_ 0 rfl) (fD_ rfl) (by simp only [maxLen]; omega) (by omega) rfl fun sv2 Hr2 hrow => ?_))))
     refine Y_ (@List.perm_append_comm _ _ [_, _, _, _, _]) ?_
     obtain ⟨g2, cp2, cur2, rfl, rfl, hr2⟩ := hrow.some (by omega)
     refine d_ (o_ rfl (u_ (fun _ a b => ⟨Vw.sat.sub a.tail, b⟩) (ab_ 1 [8, 9] (by kernel_rfl) (fun _ a b => ⟨Vw.sat.sub a.tail, b⟩) (s_ rfl (bv_ rfl) rfl (s_ rfl (m_ aJ_ rfl rfl rfl bW_) rfl (aa_ (H_ 10 rfl (by kernel_rfl) (ah_ 3 bW_ rfl rfl rfl rfl rfl rfl (d_ ?_)))))))))
     refine o_ rfl (u_ (fun _ a b => ⟨Vw.sat.sub a.tail, b⟩) (ad_ (by kernel_rfl) (c_ rfl (b_ (a_ (R_ rfl rfl rfl (aq_ (by omega) (by omega))) rfl (a_ (g_ rfl) rfl (d_ (o_ rfl ?_))))))))
     exact av_ ⟨(1, ⟨.slice (some ⟨g2, 0, none⟩) (l.length + 1) cp2, bm, es.push ⟨Pc.val (⟨k, a, b, c, r, s, t, lo, hi, frm⟩ : Pc), .bool true, clk⟩, clk + 1, [(g2, .cells cur2 31 (0, 0))]⟩), .inr ⟨rfl, by simp only [ins, if_neg hm]; exact hq.push hrow⟩⟩ Nat.zero_lt_one ⟨rfl, rfl, rfl, rfl, trivial⟩ (F := [_, _]) (@List.perm_append_comm _ [_, _] _) (fun _ _ h => h)
    ·
     refine X_ I_ U_ af_ rfl rfl rfl rfl rfl rfl fun b3 => ?_
     refine d_ (o_ rfl (u_ (fun _ a b => ⟨Vw.sat.sub a.tail, b⟩) (H_ 4 rfl (by kernel_rfl) (a_ (t_ 3 dy_ rfl rfl rfl) rfl (d_ (o_ rfl (u_ (fun _ a b => ⟨Vw.sat.sub a.tail, b⟩) (H_ 7 rfl (by kernel_rfl) (dx_ (news := Pc.cells (⟨k, a, b, c, r, s, t, lo, hi, frm⟩ : Pc)) lg_ hq.row rfl rfl (@List.perm_append_comm _ [_, _, _, _, _] _) rfl (fB_ 0 rfl) (fD_ rfl) (by simp only [maxLen]; omega) (by omega) rfl fun sv2 Hr2 hrow => ?_)))))))))
     refine Y_ (@List.perm_append_comm _ _ [_, _, _, _, _]) ?_
     obtain ⟨g2, cp2, cur2, rfl, rfl, hr2⟩ := hrow.some (by omega)
     refine d_ (o_ rfl (u_ (fun _ a b => ⟨Vw.sat.sub a.tail, b⟩) (ab_ 1 [8, 9] (by kernel_rfl) (fun _ a b => ⟨Vw.sat.sub a.tail, b⟩) (s_ rfl (bv_ rfl) rfl (s_ rfl (m_ aJ_ rfl rfl rfl bW_) rfl (aa_ (H_ 10 rfl (by kernel_rfl) (ah_ 3 bW_ rfl rfl rfl rfl rfl rfl (d_ ?_)))))))))
     refine o_ rfl (u_ (fun _ a b => ⟨Vw.sat.sub a.tail, b⟩) (ad_ (by kernel_rfl) (c_ rfl (b_ (a_ (R_ rfl rfl rfl (aq_ (by omega) (by omega))) rfl (a_ (g_ rfl) rfl (d_ (o_ rfl ?_))))))))
     exact av_ ⟨(1, ⟨.slice (some ⟨g2, 0, none⟩) (l.length + 1) cp2, bm, es.push ⟨Pc.val (⟨k, a, b, c, r, s, t, lo, hi, frm⟩ : Pc), .bool true, clk⟩, clk + 1, [(g2, .cells cur2 31 (0, 0))]⟩), .inr ⟨rfl, by simp only [ins, if_neg hm]; exact hq.push hrow⟩⟩ Nat.zero_lt_one ⟨rfl, rfl, rfl, rfl, trivial⟩ (F := [_, _]) (@List.perm_append_comm _ [_, _] _) (fun _ _ h => h)
 ·
  refine bs_ [(0, zp_ kb 0), (6, .slice (some ⟨bn, 0, none⟩) 1 1), (7, .int .i64 1), (8, .int .i64 1)] ⟨rfl, rfl, rfl, rfl, trivial⟩ ?_
  refine f_ (b_ (v_ (aN_ rfl rfl) rfl fun r2 hr2 => ?_))
  refine d_ (c_ rfl (f_ ?_))
  cases r2
  ·
   replace hr2 := of_decide_eq_false hr2
   try dsimp only [Con.kind, Con.parts, Con.name, Con.lo, Con.hi, Con.cap, Con.ad] at hr2
   refine r_ rfl (aU_ rfl (aL_ rfl ?_))
   exact dL_ Tryz.results52 ⟨q1, hc⟩ rfl (F := [_]) (@List.perm_append_comm _ [_] _) (fun _ _ _ => trivial)
  ·
   replace hr2 := of_decide_eq_true hr2
   try dsimp only [Con.kind, Con.parts, Con.name, Con.lo, Con.hi, Con.cap, Con.ad] at hr2
   exact absurd hr2 (by decide)
end Go.Proofs.YtoafjmalfclpoaaGreatDoor
namespace Go.Proofs.YtoafjmalfclpoaaGreatDoor
open Go Go.Sx Go.Proofs
attribute [local irreducible] Code.wp wpList wpAnyH
open Go.Vs
theorem strt74 : gW_ Tryz.prog 74 [(0, 1), (1, 1), (2, 1)] [.int .i64 0, .slice none 0 0, .map none] := ⟨_, Tryz.zeroValue74, aJ_, fun w => by simp [L_, bW_, Tryz.sizeOf72]⟩
theorem eR_ (frm : Int) : Tri Tryz.prog 39 #[.int .i64 frm] [] [] (fun x : Nat × Nat => zp_ x.1 0) (fun x => dD_ x.1 frm ⟨.slice none 0 0, x.2, #[], 0, []⟩) (fun _ => []) := by
  refine M_ Tryz.func39 rfl rfl Tryz.ntmps39 rfl fun v0 => ?_
  refine f_ (b_ (a_ (e_ rfl) rfl (d_ (c_ rfl (f_ (b_ (a_ (g_ rfl) rfl (dh_ rfl fun b1 => ?_))))))))
  refine a_ (N_ strt74 rfl rfl) rfl (aI_ rfl rfl fun b2 => ?_)
  refine a_ (e_ rfl) rfl (d_ (c_ rfl (B_ ?_)))
  exact aj_ Tryz.results39 (b2, b1) rfl (F := []) (.refl _) (fun _ _ _ => trivial)
def kF (b kb : Nat) : Fct := dp_ b (.cells [zp_ kb 0].toArray 69 (0, 0))
def lFn (b bk : Nat) : Value := .func (.func 94) #[] #[zp_ b 0, zp_ bk 0]
def lF (b bk : Nat) : Fct := dp_ b (.cells [lFn b bk].toArray 79 (0, 0))
def rFn (b bk : Nat) : Value := .func (.func 95) #[] #[zp_ bk 0, zp_ b 0]
def rcF (b bk : Nat) : Fct := dp_ b (.cells [rFn b bk].toArray 79 (0, 0))
theorem jp_ (kb : Nat) : Tri Tryz.prog 48 #[zp_ kb 0] [] [] (fun x : Nat × Nat × Nat => .tuple #[lFn x.2.1 x.1, rFn x.2.2 x.1]) (fun _ => []) (fun x => [kF x.1 kb, lF x.2.1 x.1, rcF x.2.2 x.1]) := by
  refine M_ Tryz.func48 rfl rfl Tryz.ntmps48 rfl fun v0 => ?_
  refine f_ (b_ (aI_ rfl rfl fun b1 => ?_))
  refine an_ Tryz.zeroValue79 rfl fun b2 => ?_
  refine an_ Tryz.zeroValue79 rfl fun b3 => ?_
  refine d_ (c_ rfl (f_ (b_ (a_ (fr_ rfl rfl) rfl (ah_ 1 Tryz.sizeOf79 rfl rfl rfl rfl rfl rfl (d_ (c_ rfl (f_ (b_ ?_)))))))))
  refine a_ (fr_ rfl rfl) rfl (ah_ 0 Tryz.sizeOf79 rfl rfl rfl rfl rfl rfl (d_ (c_ rfl (f_ ?_))))
  refine br_ (by kernel_rfl) ?_
  refine ab_ 2 [0, 1] (by kernel_rfl) (fun _ a b => ⟨a, b⟩) (s_ rfl (t_ 1 eU_ rfl rfl rfl) rfl (s_ rfl (t_ 0 eU_ rfl rfl rfl) rfl (aa_ (H_ 2 rfl (by kernel_rfl) (ah_ 1 Tryz.sizeOf79 rfl rfl rfl rfl rfl rfl (d_ (o_ rfl (u_ (fun _ a b => ⟨a, b⟩) (H_ 3 rfl (by kernel_rfl) ?_)))))))))
  refine ah_ 0 Tryz.sizeOf79 rfl rfl rfl rfl rfl rfl (d_ (o_ rfl (u_ (fun _ a b => ⟨a, b⟩) (ad_ (by kernel_rfl) (c_ rfl (B_ (ep_ 0 rfl ?_)))))))
  refine ep_ 0 rfl ?_
  refine ep_ 0 rfl ?_
  exact retG (b1, b2, b3) (fun a v h1 h2 h => ly_ Tryz.results48 eU_ eU_ h1 rfl rfl (gG_ (cs := [lFn b2 b1]) 0 h.2.1 rfl) (gG_ (cs := [rFn b3 b1]) 0 h.2.2.1 rfl)) (F := []) (.refl _) (fun v _ h => ⟨h.1, h.2.1, h.2.2.1, trivial⟩)
end Go.Proofs.YtoafjmalfclpoaaGreatDoor
namespace Go.Proofs.YtoafjmalfclpoaaGreatDoor
open Go Go.Sx Go.Proofs
attribute [local irreducible] Code.wp wpList wpAnyH
open Go.Vs
theorem Con.mem_tail {c : Con} (hok : c.ok) {v : Vw} (h : c.mem v) : bq_ v (sad c.ad c.cap 1 5) ((c.parts.drop 1).flatMap Con.cells) := by
  have := ((Con.mem_iff c v).1 h).1.slice Con.cells_len (Con.ok_len hok).1 1 c.parts.length
  rwa [List.take_of_length_le (by simp)] at this
theorem Con.drop_at {ps : List Con} {p : Con} {i : Nat} (hp : ps[i]? = some p) : ps.drop i = p :: ps.drop (i + 1) := by
  have hi := (List.getElem?_eq_some_iff.1 hp).1
  rw [List.getElem?_eq_getElem hi] at hp
  simp only [Option.some.injEq] at hp
  subst hp
  exact List.drop_eq_getElem_cons hi
theorem Con.szs_append : ∀ (xs ys : List Con), Con.sz.szs (xs ++ ys) = Con.sz.szs xs + Con.sz.szs ys
  | [], ys => by simp [Con.sz.szs]
  | x :: xs, ys => by simp only [List.cons_append, Con.sz.szs, Con.szs_append xs ys]; omega
theorem Con.sz_at {ps : List Con} {p : Con} {i : Nat} (hp : ps[i]? = some p) : Con.sz.szs (ps.take i) + p.sz ≤ Con.sz.szs ps := by
  have e : Con.sz.szs ps = Con.sz.szs (ps.take i ++ (p :: ps.drop (i + 1))) := by rw [← Con.drop_at hp, List.take_append_drop]
  rw [e, Con.szs_append]
  simp only [Con.sz.szs]; omega
theorem Con.lefts_len (frm : Int) (ps : List Con) (i : Nat) (l : List Pc) : (Con.leftP.lefts frm (ps.take i) l).length + (ps.take i).length ≤ l.length + 2 * Con.sz.szs (ps.take i) := by
  generalize ps.take i = qs
  induction qs generalizing l with
  | nil => simp [Con.leftP.lefts]
  | cons p qs ih =>
    have h1 := Con.leftP_len frm _ p (Nat.le_refl _) l
    have h2 := ih (p.leftP frm l)
    simp only [Con.leftP.lefts, Con.sz.szs, List.length_cons]
    omega
theorem Con.rights_len (frm : Int) (a : Str) (ps : List Con) (i : Nat) (l : List Pc) : (Con.rightP.rights frm a (ps.take i) l).length ≤ l.length + 2 * Con.sz.szs (ps.take i) := by
  generalize ps.take i = qs
  induction qs generalizing l with
  | nil => simp [Con.rightP.rights]
  | cons p qs ih =>
    have h0 := aY_ frm l ⟨1, a, [], p.atom, [], [], [], 0, 0, 0⟩
    have h1 := Con.rightP_len frm _ p (Nat.le_refl _) (ins frm l ⟨1, a, [], p.atom, [], [], [], 0, 0, 0⟩)
    have h2 := ih (p.rightP frm (ins frm l ⟨1, a, [], p.atom, [], [], [], 0, 0, 0⟩))
    simp only [Con.rightP.rights, Con.sz.szs]
    omega
theorem Con.headD_atom {ps : List Con} {p : Con} (hp : ps[0]? = some p) : (ps.map Con.atom).headD [] = p.atom := by cases ps <;> simp_all
theorem Con.leftP5 {c : Con} (h : c.kind = 5) (frm : Int) (l : List Pc) : c.leftP frm l = Con.andP frm c (c.parts.drop 1) 1 ((c.parts.map Con.atom).headD []) (Con.leftP.lefts frm c.parts l) := by rw [Con.leftP_eq, if_pos h]
theorem Con.leftP6 {c p : Con} (h : c.kind = 6) (hp : c.parts = [p]) (frm : Int) (l : List Pc) : c.leftP frm l = ins frm (p.leftP frm l) ⟨4, p.atom, [], c.atom, c.name, [], [], 0, 0, 0⟩ := by
  rw [Con.leftP_eq, if_neg (by omega), if_pos h, hp]; rfl
theorem Con.leftP7 {c : Con} (h : c.kind = 7) (frm : Int) (l : List Pc) : c.leftP frm l = ins frm l ⟨9, [], [], c.atom, c.name, [], [], c.lo, c.hi, 0⟩ := by rw [Con.leftP_eq, if_neg (by omega), if_neg (by omega), if_pos h]
theorem Con.leftP0 {c : Con} (h5 : c.kind ≠ 5) (h6 : c.kind ≠ 6) (h7 : c.kind ≠ 7) (frm : Int) (l : List Pc) : c.leftP frm l = l := by rw [Con.leftP_eq, if_neg h5, if_neg h6, if_neg h7]
theorem Con.rightP5 {c : Con} (h : c.kind = 5) (frm : Int) (l : List Pc) : c.rightP frm l = Con.rightP.rights frm c.atom c.parts l := by rw [Con.rightP_eq, if_pos h]
theorem Con.rightP6 {c p : Con} (h : c.kind = 6) (hp : c.parts = [p]) (frm : Int) (l : List Pc) : c.rightP frm l = p.rightP frm (ins frm l ⟨3, c.atom, [], p.atom, c.name, [], [], 0, 0, 0⟩) := by
  rw [Con.rightP_eq, if_neg (by omega), if_pos h, hp]; rfl
theorem Con.rightP7 {c : Con} (h : c.kind = 7) (frm : Int) (l : List Pc) : c.rightP frm l = ins frm l ⟨8, c.atom, [], [], c.name, [], [], c.lo, c.hi, 0⟩ := by rw [Con.rightP_eq, if_neg (by omega), if_neg (by omega), if_pos h]
theorem Con.rightP0 {c : Con} (h5 : c.kind ≠ 5) (h6 : c.kind ≠ 6) (h7 : c.kind ≠ 7) (frm : Int) (l : List Pc) : c.rightP frm l = l := by rw [Con.rightP_eq, if_neg h5, if_neg h6, if_neg h7]
end Go.Proofs.YtoafjmalfclpoaaGreatDoor
namespace Go.Proofs.YtoafjmalfclpoaaGreatDoor
open Go Go.Sx Go.Proofs
attribute [local irreducible] Code.wp wpList wpAnyH
open Go.Vs
theorem cK_ : gW_ Tryz.prog 38 [(0, 1), (1, 1), (2, 1), (3, 1), (4, 1)] [.int .i64 0, str [], .int .i64 0, .int .i64 0, .slice none 0 0] := ⟨_, aw_, C_, fun w => by simp [L_, z_, bc_]⟩
theorem ee_ {kb bk bs : Nat} {frm : Int} : ∀ (d : Nat) (c : Con), c.sz ≤ d → c.ok → c.fine → ∀ (l : List Pc) (q : CS), CInv l q → l.length + 2 * c.sz ≤ 100000 →
  Tri Tryz.prog 94 #[c.val, zp_ bs 0, zp_ bk 0] (dD_ kb frm q) [c.memF, bH_, kF bk kb, lF bs bk] (fun _ : {q' : CS // CInv (c.leftP frm l) q'} => .tuple #[]) (fun q' => dD_ kb frm q'.1) (fun _ => []) := by
 intro d
 induction d with
 | zero => intro c h; have := c.sz_pos; omega
 | succ d ih =>
  intro c hd hok hf l q hq hl
  have F := Con.fields hf
  have hle := F.le
  have hmo := F.mo
  obtain ⟨k, nm, lo, hi, ad, cap, ps⟩ := c
  have hlen := Con.ok_len hok
  have hsz : (Con.mk k nm lo hi ad cap ps).sz = 1 + Con.sz.szs ps := by simp only [Con.sz]
  have hsl := Con.szs_len ps
  simp only [Con.parts, Con.cap, Con.kind] at hlen hle hmo
  refine M_ Tryz.func94 rfl rfl Tryz.ntmps94 rfl fun v0 => ?_
  refine f_ (b_ (aI_ rfl rfl fun b1 => ?_))
  refine d_ (c_ rfl (f_ (b_ (a_ (m_ C_ rfl rfl rfl L_) rfl (a_ (t_ 0 O_ rfl rfl rfl) rfl (d_ (c_ rfl (T_ (f_ ?_)))))))))
  refine b_ (v_ (ai_ rfl rfl) rfl fun r1 hr1 => ?_)
  refine a_ (e_ rfl) rfl (d_ (c_ rfl ?_))
  cases r1
  ·
   replace hr1 := ne_of_beq_false hr1
   try dsimp only [Con.kind, Con.parts, Con.name, Con.lo, Con.hi, Con.cap, Con.ad] at hr1
   refine r_ rfl (f_ (b_ (v_ (ai_ rfl rfl) rfl fun r2 hr2 => ?_)))
   refine a_ (e_ rfl) rfl (d_ (c_ rfl ?_))
   cases r2
   ·
    replace hr2 := ne_of_beq_false hr2
    try dsimp only [Con.kind, Con.parts, Con.name, Con.lo, Con.hi, Con.cap, Con.ad] at hr2
    refine r_ rfl (f_ (b_ (v_ (ai_ rfl rfl) rfl fun r3 hr3 => ?_)))
    refine a_ (e_ rfl) rfl (d_ (c_ rfl ?_))
    cases r3
    ·
     replace hr3 := ne_of_beq_false hr3
     try dsimp only [Con.kind, Con.parts, Con.name, Con.lo, Con.hi, Con.cap, Con.ad] at hr3
     refine r_ rfl (D_ (aL_ rfl ?_))
     exact dL_ Tryz.results94 ⟨q, (by rw [Con.leftP0 (c := (.mk k nm lo hi ad cap ps)) (by assumption) (by assumption) (by assumption)]; exact hq)⟩ rfl (F := [_]) (@List.perm_append_comm _ [_] _) (fun _ _ _ => trivial)
    ·
     replace hr3 := eq_of_beq hr3
     try dsimp only [Con.kind, Con.parts, Con.name, Con.lo, Con.hi, Con.cap, Con.ad] at hr3
     refine p_ rfl ?_
     refine aW_ [(b1, .cells #[.int .i64 k, str nm, .int .i64 lo, .int .i64 hi, .slice ad ps.length cap] 38 (0, 0))] (by kernel_rfl) ?_
     refine ab_ 4 [0, 1, 2, 3, 4, 5, 6, 7] (by kernel_rfl) (fun _ a b => ⟨Vw.sat.sub a, b⟩) (s_ rfl (bx_ (cs := [zp_ kb 0]) jg_ rfl (fun v _ h => h.2.2.1) rfl) rfl (s_ rfl (m_ C_ rfl rfl rfl z_) rfl (s_ rfl (t_ 0 E_ rfl rfl rfl) rfl (s_ rfl (m_ C_ rfl rfl rfl L_) rfl (s_ rfl (t_ 0 O_ rfl rfl rfl) rfl (s_ rfl (m_ C_ rfl rfl rfl L_) rfl (s_ rfl (t_ 0 O_ rfl rfl rfl) rfl (s_ rfl (G_ 0 x_ k_ rfl rfl rfl) rfl (aa_ ?_)))))))))
     refine H_ 8 rfl (by kernel_rfl) (A_ (bK_ (.mk k nm lo hi ad cap ps) hok) rfl (.refl _) (fun v _ h => ⟨h.1, h.2.1, trivial⟩) rfl fun _ => ?_)
     refine d_ (o_ rfl (u_ (fun _ a b => ⟨Vw.sat.sub a, b⟩) (ab_ 2 [9] (by kernel_rfl) (fun _ a b => ⟨Vw.sat.sub a, b⟩) (s_ rfl (N_ by_ rfl rfl) rfl (aa_ (H_ 10 rfl (by kernel_rfl) (X_ I_ U_ af_ rfl rfl rfl rfl rfl rfl fun b2 => ?_)))))))
     refine d_ (o_ rfl (u_ (fun _ a b => ⟨Vw.sat.sub a.tail, b⟩) (H_ 11 rfl (by kernel_rfl) (A_ (cw_ ⟨9, [], [], Con.atom (.mk k nm lo hi ad cap ps), nm, [], [], lo, hi, 0⟩ frm l q hq (by omega)) rfl (.cons _ (@List.perm_append_comm _ [_] _)) (fun _ _ _ => trivial) rfl fun x => ?_))))
     obtain ⟨q2, hq2⟩ := x
     refine Y_ (@List.perm_append_comm _ _ [_]) (d_ (o_ rfl (u_ (fun _ a b => ⟨Vw.sat.sub a, b⟩) (ad_ (by kernel_rfl) (aL_ rfl ?_)))))
     exact dL_ Tryz.results94 ⟨q2, (by rw [Con.leftP7 (c := (.mk k nm lo hi ad cap ps)) (by assumption)]; exact hq2)⟩ rfl (F := [_]) (@List.perm_append_comm _ [_] _) (fun _ _ _ => trivial)
   ·
    replace hr2 := eq_of_beq hr2
    try dsimp only [Con.kind, Con.parts, Con.name, Con.lo, Con.hi, Con.cap, Con.ad] at hr2
    rw [hr2] at hle hmo
    simp [nd, eS_] at hle hmo
    obtain ⟨p, hps⟩ := List.length_eq_one_iff.1 (show ps.length = 1 by omega)
    have hp : ps[0]? = some p := by rw [hps]; rfl
    have hpm : p ∈ ps := List.mem_of_getElem? hp
    refine p_ rfl (f_ ?_)
    refine aW_ [(b1, .cells #[.int .i64 k, str nm, .int .i64 lo, .int .i64 hi, .slice ad ps.length cap] 38 (0, 0))] (by kernel_rfl) ?_
    refine ab_ 1 [0, 1, 2, 3, 4] (by kernel_rfl) (fun _ a b => ⟨Vw.sat.sub a, b⟩) (s_ rfl (bx_ (cs := [lFn bs bk]) eU_ rfl (fun v _ h => h.2.2.2.1) rfl) rfl (s_ rfl (m_ C_ rfl rfl rfl bc_) rfl (s_ rfl (t_ 0 bt_ rfl rfl rfl) rfl (s_ rfl (am_ P_ k_ rfl rfl (fun v _ h => aS_ (n := 5) Con.cells_len (by decide) (((Con.mem_iff (.mk k nm lo hi ad cap ps) v).1 h.1).1) hp) (by omega) (by first | omega | (simp only [Con.parts]; omega) | (simp [Con.parts]; done))) rfl (s_ rfl (aH_ (ad := ad) (us := p.cells) x_ k_ rfl (fun v _ h => ((Con.mem_iff (.mk k nm lo hi ad cap ps) v).1 h.1).1) (Con.cells_len _) (ao_ Con.cells_len hp)) rfl (aa_ (H_ 5 rfl (by kernel_rfl) (aE_ (ih p (by have := Con.sz_part (c := (.mk k nm lo hi ad cap ps)) hpm; omega) (Con.ok_part (c := (.mk k nm lo hi ad cap ps)) hok hpm) (Con.fine_part (c := (.mk k nm lo hi ad cap ps)) hf hpm) l q hq (by have := Con.sz_at hp; omega)) rfl rfl (@List.perm_append_comm _ [_] _) (fun v _ h => by exact ⟨Con.mem_part (c := (.mk k nm lo hi ad cap ps)) h.1 hpm, h.2⟩) rfl fun x => ?_))))))))
    obtain ⟨q5, hq5⟩ := x
    refine Y_ (@List.perm_append_comm _ _ [_]) (d_ (o_ rfl (u_ (fun _ a b => ⟨Vw.sat.sub a, b⟩) (ad_ (by kernel_rfl) (c_ rfl ?_)))))
    refine aW_ [(b1, .cells #[.int .i64 k, str nm, .int .i64 lo, .int .i64 hi, .slice ad ps.length cap] 38 (0, 0))] (by kernel_rfl) ?_
    refine ab_ 5 [0, 1, 2, 3, 4, 5, 6, 8] (by kernel_rfl) (fun _ a b => ⟨Vw.sat.sub a, b⟩) (s_ rfl (bx_ (cs := [zp_ kb 0]) jg_ rfl (fun v _ h => h.2.2.1) rfl) rfl (s_ rfl (m_ C_ rfl rfl rfl z_) rfl (s_ rfl (t_ 0 E_ rfl rfl rfl) rfl (s_ rfl (m_ C_ rfl rfl rfl bc_) rfl (s_ rfl (t_ 0 bt_ rfl rfl rfl) rfl (s_ rfl (am_ P_ k_ rfl rfl (fun v _ h => aS_ (n := 5) Con.cells_len (by decide) (((Con.mem_iff (.mk k nm lo hi ad cap ps) v).1 h.1).1) hp) (by omega) (by first | omega | (simp only [Con.parts]; omega) | (simp [Con.parts]; done))) rfl (s_ rfl (aH_ (ad := ad) (us := p.cells) x_ k_ rfl (fun v _ h => ((Con.mem_iff (.mk k nm lo hi ad cap ps) v).1 h.1).1) (Con.cells_len _) (ao_ Con.cells_len hp)) rfl (s_ rfl (G_ 0 x_ k_ rfl rfl rfl) rfl (aa_ ?_)))))))))
    refine H_ 7 rfl (by kernel_rfl) (A_ (bK_ p (Con.ok_part (c := (.mk k nm lo hi ad cap ps)) hok hpm)) rfl (.refl _) (fun v _ h => ⟨Con.mem_part (c := (.mk k nm lo hi ad cap ps)) h.1 hpm, h.2.1, trivial⟩) rfl fun _ => ?_)
    refine d_ (o_ rfl (u_ (fun _ a b => ⟨Vw.sat.sub a, b⟩) (H_ 9 rfl (by kernel_rfl) (A_ (bK_ (.mk k nm lo hi ad cap ps) hok) rfl (.refl _) (fun v _ h => ⟨h.1, h.2.1, trivial⟩) rfl fun _ => ?_))))
    refine d_ (o_ rfl (u_ (fun _ a b => ⟨Vw.sat.sub a, b⟩) (ab_ 2 [10] (by kernel_rfl) (fun _ a b => ⟨Vw.sat.sub a, b⟩) (s_ rfl (N_ by_ rfl rfl) rfl (aa_ (H_ 11 rfl (by kernel_rfl) (X_ I_ U_ af_ rfl rfl rfl rfl rfl rfl fun b3 => ?_)))))))
    refine d_ (o_ rfl (u_ (fun _ a b => ⟨Vw.sat.sub a.tail, b⟩) (H_ 12 rfl (by kernel_rfl) (A_ (cw_ ⟨4, p.atom, [], Con.atom (.mk k nm lo hi ad cap ps), nm, [], [], 0, 0, 0⟩ frm (p.leftP frm l) q5 hq5 (by have := Con.leftP_len frm _ p (Nat.le_refl _) l; have := Con.sz_at hp; omega)) rfl (.cons _ (@List.perm_append_comm _ [_] _)) (fun _ _ _ => trivial) rfl fun x => ?_))))
    obtain ⟨q7, hq7⟩ := x
    refine Y_ (@List.perm_append_comm _ _ [_]) (d_ (o_ rfl (u_ (fun _ a b => ⟨Vw.sat.sub a, b⟩) (ad_ (by kernel_rfl) (aL_ rfl ?_)))))
    exact dL_ Tryz.results94 ⟨q7, (by rw [Con.leftP6 (c := (.mk k nm lo hi ad cap ps)) (p := p) (by assumption) hps]; exact hq7)⟩ rfl (F := [_]) (@List.perm_append_comm _ [_] _) (fun _ _ _ => trivial)
  ·
   replace hr1 := eq_of_beq hr1
   try dsimp only [Con.kind, Con.parts, Con.name, Con.lo, Con.hi, Con.cap, Con.ad] at hr1
   rw [hr1] at hle hmo
   simp [nd, eS_] at hle hmo
   refine p_ rfl (f_ (f_ (b_ (a_ (m_ C_ rfl rfl rfl bc_) rfl (a_ (t_ 0 bt_ rfl rfl rfl) rfl (a_ (ar_ P_ rfl) rfl (a_ (g_ rfl) rfl (d_ (c_ rfl ?_)))))))))
   refine T_ (bs_ [(1, zp_ bs 0), (2, zp_ bk 0), (3, zp_ b1 0), (15, .slice ad ps.length cap), (16, .int .i64 (ps.length : Int)), (17, .int .i64 ((0 : Nat) : Int))] ⟨rfl, rfl, rfl, rfl, rfl, rfl, trivial⟩ ?_)
   refine bE_ (ι := {x : Nat × CS // x.1 ≤ ps.length ∧ CInv (Con.leftP.lefts frm (ps.take x.1) l) x.2}) (fun x => [(1, zp_ bs 0), (2, zp_ bk 0), (3, zp_ b1 0), (15, .slice ad ps.length cap), (16, .int .i64 (ps.length : Int)), (17, .int .i64 (x.1.1 : Int))]) (fun x => _ :: dD_ kb frm x.1.2) (fun _ => _) (fun x => ps.length - x.1.1) ⟨(0, q), by simp, by simpa [Con.leftP.lefts] using hq⟩ ?_
   rintro ⟨⟨i, q0⟩, hk⟩
   dsimp only at hk
   refine bs_ [(1, zp_ bs 0), (2, zp_ bk 0), (3, zp_ b1 0), (15, .slice ad ps.length cap), (16, .int .i64 (ps.length : Int)), (17, .int .i64 (i : Int))] ⟨rfl, rfl, rfl, rfl, rfl, rfl, trivial⟩ ?_
   refine f_ (b_ (v_ (aN_ rfl rfl) rfl fun r4 hr4 => ?_))
   refine d_ (c_ rfl (f_ ?_))
   cases r4
   ·
    replace hr4 := of_decide_eq_false hr4
    try dsimp only [Con.kind, Con.parts, Con.name, Con.lo, Con.hi, Con.cap, Con.ad] at hr4
    obtain rfl : i = ps.length := by omega
    rw [List.take_length] at hk
    obtain ⟨p, hp⟩ : ∃ p, ps[0]? = some p := ⟨_, List.getElem?_eq_getElem (show 0 < ps.length by omega)⟩
    have hpm : p ∈ ps := List.mem_of_getElem? hp
    refine r_ rfl (aU_ rfl (c_ rfl (f_ (b_ (a_ (m_ C_ rfl rfl rfl bc_) rfl (a_ (t_ 0 bt_ rfl rfl rfl) rfl (a_ (am_ P_ k_ rfl rfl (fun v _ h => aS_ (n := 5) Con.cells_len (by decide) (((Con.mem_iff (.mk k nm lo hi ad cap ps) v).1 h.1).1) hp) (by omega) (by first | omega | (simp only [Con.parts]; omega) | (simp [Con.parts]; done))) rfl (a_ (aH_ (ad := ad) (us := p.cells) x_ k_ rfl (fun v _ h => ((Con.mem_iff (.mk k nm lo hi ad cap ps) v).1 h.1).1) (Con.cells_len _) (ao_ Con.cells_len hp)) rfl (A_ (bK_ p (Con.ok_part (c := (.mk k nm lo hi ad cap ps)) hok hpm)) rfl (.refl _) (fun v _ h => ⟨Con.mem_part (c := (.mk k nm lo hi ad cap ps)) h.1 hpm, h.2.1, trivial⟩) rfl fun _ => ?_)))))))))
    refine a_ (e_ rfl) rfl (d_ (c_ rfl (f_ (b_ (a_ (m_ C_ rfl rfl rfl bc_) rfl (a_ (t_ 0 bt_ rfl rfl rfl) rfl (a_ (dc_ (i := 1) (j := ps.length) (kl := .i64) (kh := .i64) P_ k_ rfl rfl rfl (by omega) (by first | omega | (simp only [Con.cap]; omega))) rfl (a_ (ar_ P_ rfl) rfl (a_ (g_ rfl) rfl ?_)))))))))
    refine d_ (c_ rfl (T_ (bs_ [(1, zp_ bs 0), (2, zp_ bk 0), (3, zp_ b1 0), (6, str p.atom), (32, .slice (sad ad cap 1 5) (ps.length - 1) (cap - 1)), (33, .int .i64 ((ps.length - 1 : Nat) : Int)), (34, .int .i64 ((0 : Nat) : Int))] ⟨rfl, rfl, rfl, rfl, rfl, rfl, rfl, trivial⟩ ?_)))
    have hh := Con.headD_atom hp
    have hL0 := Con.lefts_len frm ps ps.length l
    rw [List.take_length] at hL0
    generalize p.atom = f0 at hh ⊢
    refine bE_ (ι := {x : Nat × Str × List Pc × CS // x.1 ≤ ps.length - 1 ∧ CInv x.2.2.1 x.2.2.2 ∧ x.2.2.1.length ≤ (Con.leftP.lefts frm ps l).length + x.1 ∧ Con.andP frm (.mk k nm lo hi ad cap ps) (ps.drop 1) 1 f0 (Con.leftP.lefts frm ps l) = Con.andP frm (.mk k nm lo hi ad cap ps) (ps.drop (1 + x.1)) (1 + x.1) x.2.1 x.2.2.1}) (fun x => [(1, zp_ bs 0), (2, zp_ bk 0), (3, zp_ b1 0), (6, str x.1.2.1), (32, .slice (sad ad cap 1 5) (ps.length - 1) (cap - 1)), (33, .int .i64 ((ps.length - 1 : Nat) : Int)), (34, .int .i64 (x.1.1 : Int))]) (fun x => _ :: dD_ kb frm x.1.2.2.2) (fun _ => _) (fun x => ps.length - 1 - x.1.1) ⟨(0, f0, (Con.leftP.lefts frm ps l), q0), by simp, hk.2, by simp, rfl⟩ ?_
    rintro ⟨⟨i, f, l1, q2⟩, hj⟩
    dsimp only at hj
    refine bs_ [(1, zp_ bs 0), (2, zp_ bk 0), (3, zp_ b1 0), (6, str f), (32, .slice (sad ad cap 1 5) (ps.length - 1) (cap - 1)), (33, .int .i64 ((ps.length - 1 : Nat) : Int)), (34, .int .i64 (i : Int))] ⟨rfl, rfl, rfl, rfl, rfl, rfl, rfl, trivial⟩ ?_
    refine f_ (b_ (v_ (aN_ rfl rfl) rfl fun r5 hr5 => ?_))
    refine d_ (c_ rfl (f_ ?_))
    cases r5
    ·
     replace hr5 := of_decide_eq_false hr5
     try dsimp only [Con.kind, Con.parts, Con.name, Con.lo, Con.hi, Con.cap, Con.ad] at hr5
     refine r_ rfl (aU_ rfl (aL_ rfl ?_))
     exact dL_ Tryz.results94 ⟨q2, (by have e := hj.2.2.2; rw [List.drop_of_length_le (show ps.length ≤ 1 + i by omega)] at e; rw [Con.leftP5 (c := (.mk k nm lo hi ad cap ps)) (by assumption)]; simp only [Con.parts, hh]; rw [e]; exact hj.2.1)⟩ rfl (F := [_]) (@List.perm_append_comm _ [_] _) (fun _ _ _ => trivial)
    ·
     replace hr5 := of_decide_eq_true hr5
     try dsimp only [Con.kind, Con.parts, Con.name, Con.lo, Con.hi, Con.cap, Con.ad] at hr5
     have hlt : i < ps.length - 1 := by omega
     obtain ⟨p, hp⟩ : ∃ p, (ps.drop 1)[i]? = some p := ⟨_, List.getElem?_eq_getElem (by simp; omega)⟩
     have hp0 : ps[1 + i]? = some p := by rw [← List.getElem?_drop]; exact hp
     have hpm : p ∈ ps := List.mem_of_getElem? hp0
     refine p_ rfl (D_ (c_ rfl (f_ (T_ (f_ (b_ (a_ (g_ rfl) rfl (a_ (am_ P_ k_ rfl rfl (fun v _ h => aS_ (n := 5) Con.cells_len (by decide) ((Con.mem_tail (c := (.mk k nm lo hi ad cap ps)) hok h.1)) hp) (by omega) (by first | omega | (simp only [Con.parts]; omega) | (simp [Con.parts]; done))) rfl (a_ (aH_ (ad := (sad ad cap 1 5)) (us := p.cells) x_ k_ rfl (fun v _ h => (Con.mem_tail (c := (.mk k nm lo hi ad cap ps)) hok h.1)) (Con.cells_len _) (ao_ Con.cells_len hp)) rfl ?_)))))))))
     refine an_ aw_ rfl fun b4 => ?_
     refine a_ (e_ rfl) rfl (dw_ 0 k_ rfl rfl rfl rfl (d_ (c_ rfl (f_ (b_ (a_ (m_ C_ rfl rfl rfl bc_) rfl (a_ (t_ 1 bt_ rfl rfl rfl) rfl (a_ (g_ rfl) rfl (a_ (R_ rfl rfl rfl (aq_ (by omega) (by omega))) rfl ?_)))))))))
     refine a_ (bB_ (dc_ (i := 0) (j := i + 2) (kl := .i64) (kh := .i64) P_ k_ rfl rfl rfl (by omega) (by first | omega | (simp only [Con.cap]; omega))) (show _ = Value.slice (sad ad cap 0 5) (ps.take (i + 2)).length (cap - 0) by rw [List.length_take, Nat.min_eq_left (by omega)]; rfl)) rfl (a_ (N_ cK_ rfl rfl) rfl (A_ (bK_ (Con.pre (.mk k nm lo hi ad cap ps) (i + 2)) (Con.pre_ok hok _)) rfl (.refl _) (fun v _ h => ⟨Con.pre_mem hok h.1 _, h.2.1, trivial⟩) rfl fun _ => ?_))
     refine a_ (e_ rfl) rfl (d_ (c_ rfl (f_ ?_)))
     refine aW_ [(b4, .cells p.cells.toArray 38 (0, 0)), (b1, .cells #[.int .i64 k, str nm, .int .i64 lo, .int .i64 hi, .slice ad ps.length cap] 38 (0, 0))] (by kernel_rfl) ?_
     refine ab_ 4 [0, 1, 2, 4] (by kernel_rfl) (fun _ a b => ⟨Vw.sat.sub a, b⟩) (s_ rfl (bx_ (cs := [zp_ kb 0]) jg_ rfl (fun v _ h => h.2.2.1) rfl) rfl (s_ rfl (g_ rfl) rfl (s_ rfl (cs_ 0 x_ k_ rfl rfl) rfl (s_ rfl (g_ rfl) rfl (aa_ (H_ 3 rfl (by kernel_rfl) (A_ (bK_ p (Con.ok_part (c := (.mk k nm lo hi ad cap ps)) hok hpm)) rfl (.refl _) (fun v _ h => ⟨Con.mem_part (c := (.mk k nm lo hi ad cap ps)) h.1 hpm, h.2.1, trivial⟩) rfl fun _ => ?_)))))))
     refine d_ (o_ rfl (u_ (fun _ a b => ⟨Vw.sat.sub a, b⟩) (ab_ 2 [5] (by kernel_rfl) (fun _ a b => ⟨Vw.sat.sub a, b⟩) (s_ rfl (N_ by_ rfl rfl) rfl (aa_ (H_ 6 rfl (by kernel_rfl) (X_ I_ U_ af_ rfl rfl rfl rfl rfl rfl fun b5 => ?_)))))))
     refine d_ (o_ rfl (u_ (fun _ a b => ⟨Vw.sat.sub a.tail, b⟩) (H_ 7 rfl (by kernel_rfl) (A_ (cw_ ⟨2, f, p.atom, (Con.pre (.mk k nm lo hi ad cap ps) (i + 2)).atom, [], [], [], 0, 0, 0⟩ frm l1 q2 hj.2.1 (by omega)) rfl (.cons _ (@List.perm_append_comm _ [_, _] _)) (fun _ _ _ => trivial) rfl fun x => ?_))))
     obtain ⟨q9, hq9⟩ := x
     refine Y_ (@List.perm_append_comm _ _ [_, _]) (d_ (o_ rfl (u_ (fun _ a b => ⟨Vw.sat.sub a, b⟩) (ad_ (by kernel_rfl) (c_ rfl (b_ (a_ (g_ rfl) rfl (a_ (e_ rfl) rfl (d_ ?_)))))))))
     refine c_ rfl (b_ (a_ (R_ rfl rfl rfl (aq_ (by omega) (by omega))) rfl (a_ (g_ rfl) rfl (d_ (o_ rfl ?_)))))
     exact av_ ⟨(i + 1, (Con.pre (.mk k nm lo hi ad cap ps) (i + 2)).atom, (ins frm l1 ⟨2, f, p.atom, (Con.pre (.mk k nm lo hi ad cap ps) (i + 2)).atom, [], [], [], 0, 0, 0⟩), q9), by omega, hq9, by have := aY_ frm l1 ⟨2, f, p.atom, (Con.pre (.mk k nm lo hi ad cap ps) (i + 2)).atom, [], [], [], 0, 0, 0⟩; dsimp only; omega, by rw [hj.2.2.2, Con.drop_at hp0]; simp only [Con.andP]; rw [show 1 + i + 1 = i + 2 by omega, show 1 + (i + 1) = i + 2 by omega]⟩ (by simp; omega) ⟨rfl, rfl, rfl, rfl, rfl, rfl, rfl, trivial⟩ (F := [_]) (@List.perm_append_comm _ [_] _) (fun _ _ h => h)
   ·
    replace hr4 := of_decide_eq_true hr4
    try dsimp only [Con.kind, Con.parts, Con.name, Con.lo, Con.hi, Con.cap, Con.ad] at hr4
    have hlt : i < ps.length := by omega
    obtain ⟨p, hp⟩ : ∃ p, ps[i]? = some p := ⟨_, List.getElem?_eq_getElem hlt⟩
    have hpm : p ∈ ps := List.mem_of_getElem? hp
    refine p_ rfl (D_ (c_ rfl (f_ (T_ (f_ (b_ (a_ (am_ P_ k_ rfl rfl (fun v _ h => aS_ (n := 5) Con.cells_len (by decide) (((Con.mem_iff (.mk k nm lo hi ad cap ps) v).1 h.1).1) hp) (by omega) (by first | omega | (simp only [Con.parts]; omega) | (simp [Con.parts]; done))) rfl (a_ (aH_ (ad := ad) (us := p.cells) x_ k_ rfl (fun v _ h => ((Con.mem_iff (.mk k nm lo hi ad cap ps) v).1 h.1).1) (Con.cells_len _) (ao_ Con.cells_len hp)) rfl (an_ aw_ rfl fun b6 => ?_)))))))))
    refine dw_ 0 k_ rfl rfl rfl rfl (d_ (c_ rfl (b_ (a_ (bx_ (cs := [lFn bs bk]) eU_ rfl (fun v _ h => h.2.2.2.1) rfl) rfl (a_ (cs_ 0 x_ k_ rfl rfl) rfl (aE_ (ih p (by have := Con.sz_part (c := (.mk k nm lo hi ad cap ps)) hpm; omega) (Con.ok_part (c := (.mk k nm lo hi ad cap ps)) hok hpm) (Con.fine_part (c := (.mk k nm lo hi ad cap ps)) hf hpm) (Con.leftP.lefts frm (ps.take i) l) q0 hk.2 (by have := Con.lefts_len frm ps i l; have := Con.sz_at hp; omega)) rfl rfl (@List.perm_append_comm _ [_, _] _) (fun v _ h => by exact ⟨Con.mem_part (c := (.mk k nm lo hi ad cap ps)) h.1 hpm, h.2⟩) rfl fun x => ?_))))))
    obtain ⟨q10, hq10⟩ := x
    refine Y_ (@List.perm_append_comm _ _ [_, _]) (d_ (c_ rfl (b_ (a_ (R_ rfl rfl rfl (aq_ (by omega) (by omega))) rfl (a_ (g_ rfl) rfl (d_ (o_ rfl ?_)))))))
    exact av_ ⟨(i + 1, q10), hlt, by rw [Con.lefts_step frm hp]; exact hq10⟩ (by simp; omega) ⟨rfl, rfl, rfl, rfl, rfl, rfl, trivial⟩ (F := [_]) (@List.perm_append_comm _ [_] _) (fun _ _ h => h)
theorem dB_ {kb bk bs : Nat} {frm : Int} : ∀ (d : Nat) (c : Con), c.sz ≤ d → c.ok → c.fine → ∀ (l : List Pc) (q : CS), CInv l q → l.length + 2 * c.sz ≤ 100000 →
  Tri Tryz.prog 95 #[c.val, zp_ bk 0, zp_ bs 0] (dD_ kb frm q) [c.memF, bH_, kF bk kb, rcF bs bk] (fun _ : {q' : CS // CInv (c.rightP frm l) q'} => .tuple #[]) (fun q' => dD_ kb frm q'.1) (fun _ => []) := by
 intro d
 induction d with
 | zero => intro c h; have := c.sz_pos; omega
 | succ d ih =>
  intro c hd hok hf l q hq hl
  have F := Con.fields hf
  have hle := F.le
  have hmo := F.mo
  obtain ⟨k, nm, lo, hi, ad, cap, ps⟩ := c
  have hlen := Con.ok_len hok
  have hsz : (Con.mk k nm lo hi ad cap ps).sz = 1 + Con.sz.szs ps := by simp only [Con.sz]
  have hsl := Con.szs_len ps
  simp only [Con.parts, Con.cap, Con.kind] at hlen hle hmo
  refine M_ Tryz.func95 rfl rfl Tryz.ntmps95 rfl fun v0 => ?_
  refine f_ (b_ (aI_ rfl rfl fun b1 => ?_))
  refine d_ (c_ rfl (f_ (b_ (a_ (m_ C_ rfl rfl rfl L_) rfl (a_ (t_ 0 O_ rfl rfl rfl) rfl (d_ (c_ rfl (T_ (f_ ?_)))))))))
  refine b_ (v_ (ai_ rfl rfl) rfl fun r1 hr1 => ?_)
  refine a_ (e_ rfl) rfl (d_ (c_ rfl ?_))
  cases r1
  ·
   replace hr1 := ne_of_beq_false hr1
   try dsimp only [Con.kind, Con.parts, Con.name, Con.lo, Con.hi, Con.cap, Con.ad] at hr1
   refine r_ rfl (f_ (b_ (v_ (ai_ rfl rfl) rfl fun r2 hr2 => ?_)))
   refine a_ (e_ rfl) rfl (d_ (c_ rfl ?_))
   cases r2
   ·
    replace hr2 := ne_of_beq_false hr2
    try dsimp only [Con.kind, Con.parts, Con.name, Con.lo, Con.hi, Con.cap, Con.ad] at hr2
    refine r_ rfl (f_ (b_ (v_ (ai_ rfl rfl) rfl fun r3 hr3 => ?_)))
    refine a_ (e_ rfl) rfl (d_ (c_ rfl ?_))
    cases r3
    ·
     replace hr3 := ne_of_beq_false hr3
     try dsimp only [Con.kind, Con.parts, Con.name, Con.lo, Con.hi, Con.cap, Con.ad] at hr3
     refine r_ rfl (D_ (aL_ rfl ?_))
     exact dL_ Tryz.results95 ⟨q, (by rw [Con.rightP0 (c := (.mk k nm lo hi ad cap ps)) (by assumption) (by assumption) (by assumption)]; exact hq)⟩ rfl (F := [_]) (@List.perm_append_comm _ [_] _) (fun _ _ _ => trivial)
    ·
     replace hr3 := eq_of_beq hr3
     try dsimp only [Con.kind, Con.parts, Con.name, Con.lo, Con.hi, Con.cap, Con.ad] at hr3
     refine p_ rfl ?_
     refine aW_ [(b1, .cells #[.int .i64 k, str nm, .int .i64 lo, .int .i64 hi, .slice ad ps.length cap] 38 (0, 0))] (by kernel_rfl) ?_
     refine ab_ 4 [0, 1, 3, 4, 5, 6, 7, 8] (by kernel_rfl) (fun _ a b => ⟨Vw.sat.sub a, b⟩) (s_ rfl (bx_ (cs := [zp_ kb 0]) jg_ rfl (fun v _ h => h.2.2.1) rfl) rfl (s_ rfl (G_ 0 x_ k_ rfl rfl rfl) rfl (s_ rfl (m_ C_ rfl rfl rfl z_) rfl (s_ rfl (t_ 0 E_ rfl rfl rfl) rfl (s_ rfl (m_ C_ rfl rfl rfl L_) rfl (s_ rfl (t_ 0 O_ rfl rfl rfl) rfl (s_ rfl (m_ C_ rfl rfl rfl L_) rfl (s_ rfl (t_ 0 O_ rfl rfl rfl) rfl (aa_ ?_)))))))))
     refine H_ 2 rfl (by kernel_rfl) (A_ (bK_ (.mk k nm lo hi ad cap ps) hok) rfl (.refl _) (fun v _ h => ⟨h.1, h.2.1, trivial⟩) rfl fun _ => ?_)
     refine d_ (o_ rfl (u_ (fun _ a b => ⟨Vw.sat.sub a, b⟩) (ab_ 2 [9] (by kernel_rfl) (fun _ a b => ⟨Vw.sat.sub a, b⟩) (s_ rfl (N_ by_ rfl rfl) rfl (aa_ (H_ 10 rfl (by kernel_rfl) (X_ I_ U_ af_ rfl rfl rfl rfl rfl rfl fun b2 => ?_)))))))
     refine d_ (o_ rfl (u_ (fun _ a b => ⟨Vw.sat.sub a.tail, b⟩) (H_ 11 rfl (by kernel_rfl) (A_ (cw_ ⟨8, Con.atom (.mk k nm lo hi ad cap ps), [], [], nm, [], [], lo, hi, 0⟩ frm l q hq (by omega)) rfl (.cons _ (@List.perm_append_comm _ [_] _)) (fun _ _ _ => trivial) rfl fun x => ?_))))
     obtain ⟨q2, hq2⟩ := x
     refine Y_ (@List.perm_append_comm _ _ [_]) (d_ (o_ rfl (u_ (fun _ a b => ⟨Vw.sat.sub a, b⟩) (ad_ (by kernel_rfl) (aL_ rfl ?_)))))
     exact dL_ Tryz.results95 ⟨q2, (by rw [Con.rightP7 (c := (.mk k nm lo hi ad cap ps)) (by assumption)]; exact hq2)⟩ rfl (F := [_]) (@List.perm_append_comm _ [_] _) (fun _ _ _ => trivial)
   ·
    replace hr2 := eq_of_beq hr2
    try dsimp only [Con.kind, Con.parts, Con.name, Con.lo, Con.hi, Con.cap, Con.ad] at hr2
    rw [hr2] at hle hmo
    simp [nd, eS_] at hle hmo
    obtain ⟨p, hps⟩ := List.length_eq_one_iff.1 (show ps.length = 1 by omega)
    have hp : ps[0]? = some p := by rw [hps]; rfl
    have hpm : p ∈ ps := List.mem_of_getElem? hp
    refine p_ rfl (f_ ?_)
    refine aW_ [(b1, .cells #[.int .i64 k, str nm, .int .i64 lo, .int .i64 hi, .slice ad ps.length cap] 38 (0, 0))] (by kernel_rfl) ?_
    refine ab_ 5 [0, 1, 3, 4, 5, 6, 7, 8] (by kernel_rfl) (fun _ a b => ⟨Vw.sat.sub a, b⟩) (s_ rfl (bx_ (cs := [zp_ kb 0]) jg_ rfl (fun v _ h => h.2.2.1) rfl) rfl (s_ rfl (G_ 0 x_ k_ rfl rfl rfl) rfl (s_ rfl (m_ C_ rfl rfl rfl z_) rfl (s_ rfl (t_ 0 E_ rfl rfl rfl) rfl (s_ rfl (m_ C_ rfl rfl rfl bc_) rfl (s_ rfl (t_ 0 bt_ rfl rfl rfl) rfl (s_ rfl (am_ P_ k_ rfl rfl (fun v _ h => aS_ (n := 5) Con.cells_len (by decide) (((Con.mem_iff (.mk k nm lo hi ad cap ps) v).1 h.1).1) hp) (by omega) (by first | omega | (simp only [Con.parts]; omega) | (simp [Con.parts]; done))) rfl (s_ rfl (aH_ (ad := ad) (us := p.cells) x_ k_ rfl (fun v _ h => ((Con.mem_iff (.mk k nm lo hi ad cap ps) v).1 h.1).1) (Con.cells_len _) (ao_ Con.cells_len hp)) rfl (aa_ ?_)))))))))
    refine H_ 2 rfl (by kernel_rfl) (A_ (bK_ (.mk k nm lo hi ad cap ps) hok) rfl (.refl _) (fun v _ h => ⟨h.1, h.2.1, trivial⟩) rfl fun _ => ?_)
    refine d_ (o_ rfl (u_ (fun _ a b => ⟨Vw.sat.sub a, b⟩) (H_ 9 rfl (by kernel_rfl) (A_ (bK_ p (Con.ok_part (c := (.mk k nm lo hi ad cap ps)) hok hpm)) rfl (.refl _) (fun v _ h => ⟨Con.mem_part (c := (.mk k nm lo hi ad cap ps)) h.1 hpm, h.2.1, trivial⟩) rfl fun _ => ?_))))
    refine d_ (o_ rfl (u_ (fun _ a b => ⟨Vw.sat.sub a, b⟩) (ab_ 2 [10] (by kernel_rfl) (fun _ a b => ⟨Vw.sat.sub a, b⟩) (s_ rfl (N_ by_ rfl rfl) rfl (aa_ (H_ 11 rfl (by kernel_rfl) (X_ I_ U_ af_ rfl rfl rfl rfl rfl rfl fun b3 => ?_)))))))
    refine d_ (o_ rfl (u_ (fun _ a b => ⟨Vw.sat.sub a.tail, b⟩) (H_ 12 rfl (by kernel_rfl) (A_ (cw_ ⟨3, Con.atom (.mk k nm lo hi ad cap ps), [], p.atom, nm, [], [], 0, 0, 0⟩ frm l q hq (by omega)) rfl (.cons _ (@List.perm_append_comm _ [_] _)) (fun _ _ _ => trivial) rfl fun x => ?_))))
    obtain ⟨q4, hq4⟩ := x
    refine Y_ (@List.perm_append_comm _ _ [_]) (d_ (o_ rfl (u_ (fun _ a b => ⟨Vw.sat.sub a, b⟩) (ad_ (by kernel_rfl) (c_ rfl ?_)))))
    refine aW_ [(b1, .cells #[.int .i64 k, str nm, .int .i64 lo, .int .i64 hi, .slice ad ps.length cap] 38 (0, 0))] (by kernel_rfl) ?_
    refine ab_ 1 [0, 1, 2, 3, 4] (by kernel_rfl) (fun _ a b => ⟨Vw.sat.sub a, b⟩) (s_ rfl (bx_ (cs := [rFn bs bk]) eU_ rfl (fun v _ h => h.2.2.2.1) rfl) rfl (s_ rfl (m_ C_ rfl rfl rfl bc_) rfl (s_ rfl (t_ 0 bt_ rfl rfl rfl) rfl (s_ rfl (am_ P_ k_ rfl rfl (fun v _ h => aS_ (n := 5) Con.cells_len (by decide) (((Con.mem_iff (.mk k nm lo hi ad cap ps) v).1 h.1).1) hp) (by omega) (by first | omega | (simp only [Con.parts]; omega) | (simp [Con.parts]; done))) rfl (s_ rfl (aH_ (ad := ad) (us := p.cells) x_ k_ rfl (fun v _ h => ((Con.mem_iff (.mk k nm lo hi ad cap ps) v).1 h.1).1) (Con.cells_len _) (ao_ Con.cells_len hp)) rfl (aa_ (H_ 5 rfl (by kernel_rfl) (aE_ (ih p (by have := Con.sz_part (c := (.mk k nm lo hi ad cap ps)) hpm; omega) (Con.ok_part (c := (.mk k nm lo hi ad cap ps)) hok hpm) (Con.fine_part (c := (.mk k nm lo hi ad cap ps)) hf hpm) (ins frm l ⟨3, Con.atom (.mk k nm lo hi ad cap ps), [], p.atom, nm, [], [], 0, 0, 0⟩) q4 hq4 (by have := aY_ frm l ⟨3, Con.atom (.mk k nm lo hi ad cap ps), [], p.atom, nm, [], [], 0, 0, 0⟩; have := Con.sz_at hp; omega)) rfl rfl (@List.perm_append_comm _ [_] _) (fun v _ h => by exact ⟨Con.mem_part (c := (.mk k nm lo hi ad cap ps)) h.1 hpm, h.2⟩) rfl fun x => ?_))))))))
    obtain ⟨q7, hq7⟩ := x
    refine Y_ (@List.perm_append_comm _ _ [_]) (d_ (o_ rfl (u_ (fun _ a b => ⟨Vw.sat.sub a, b⟩) (ad_ (by kernel_rfl) (aL_ rfl ?_)))))
    exact dL_ Tryz.results95 ⟨q7, (by rw [Con.rightP6 (c := (.mk k nm lo hi ad cap ps)) (p := p) (by assumption) hps]; exact hq7)⟩ rfl (F := [_]) (@List.perm_append_comm _ [_] _) (fun _ _ _ => trivial)
  ·
   replace hr1 := eq_of_beq hr1
   try dsimp only [Con.kind, Con.parts, Con.name, Con.lo, Con.hi, Con.cap, Con.ad] at hr1
   rw [hr1] at hle hmo
   simp [nd, eS_] at hle hmo
   refine p_ rfl (f_ (b_ (a_ (m_ C_ rfl rfl rfl bc_) rfl (a_ (t_ 0 bt_ rfl rfl rfl) rfl (a_ (ar_ P_ rfl) rfl (a_ (g_ rfl) rfl (d_ (c_ rfl (T_ ?_)))))))))
   refine bs_ [(1, zp_ bk 0), (2, zp_ bs 0), (3, zp_ b1 0), (11, .slice ad ps.length cap), (12, .int .i64 (ps.length : Int)), (13, .int .i64 ((0 : Nat) : Int))] ⟨rfl, rfl, rfl, rfl, rfl, rfl, trivial⟩ ?_
   refine bE_ (ι := {x : Nat × CS // x.1 ≤ ps.length ∧ CInv (Con.rightP.rights frm (Con.atom (.mk k nm lo hi ad cap ps)) (ps.take x.1) l) x.2}) (fun x => [(1, zp_ bk 0), (2, zp_ bs 0), (3, zp_ b1 0), (11, .slice ad ps.length cap), (12, .int .i64 (ps.length : Int)), (13, .int .i64 (x.1.1 : Int))]) (fun x => _ :: dD_ kb frm x.1.2) (fun _ => _) (fun x => ps.length - x.1.1) ⟨(0, q), by simp, by simpa [Con.rightP.rights] using hq⟩ ?_
   rintro ⟨⟨i, q0⟩, hk⟩
   dsimp only at hk
   refine bs_ [(1, zp_ bk 0), (2, zp_ bs 0), (3, zp_ b1 0), (11, .slice ad ps.length cap), (12, .int .i64 (ps.length : Int)), (13, .int .i64 (i : Int))] ⟨rfl, rfl, rfl, rfl, rfl, rfl, trivial⟩ ?_
   refine f_ (b_ (v_ (aN_ rfl rfl) rfl fun r4 hr4 => ?_))
   refine d_ (c_ rfl (f_ ?_))
   cases r4
   ·
    replace hr4 := of_decide_eq_false hr4
    try dsimp only [Con.kind, Con.parts, Con.name, Con.lo, Con.hi, Con.cap, Con.ad] at hr4
    obtain rfl : i = ps.length := by omega
    rw [List.take_length] at hk
    refine r_ rfl (aU_ rfl (aL_ rfl ?_))
    exact dL_ Tryz.results95 ⟨q0, (by rw [Con.rightP5 (c := (.mk k nm lo hi ad cap ps)) (by assumption)]; exact hk.2)⟩ rfl (F := [_]) (@List.perm_append_comm _ [_] _) (fun _ _ _ => trivial)
   ·
    replace hr4 := of_decide_eq_true hr4
    try dsimp only [Con.kind, Con.parts, Con.name, Con.lo, Con.hi, Con.cap, Con.ad] at hr4
    have hlt : i < ps.length := by omega
    obtain ⟨p, hp⟩ : ∃ p, ps[i]? = some p := ⟨_, List.getElem?_eq_getElem hlt⟩
    have hpm : p ∈ ps := List.mem_of_getElem? hp
    refine p_ rfl (D_ (c_ rfl (f_ (T_ (f_ (b_ (a_ (am_ P_ k_ rfl rfl (fun v _ h => aS_ (n := 5) Con.cells_len (by decide) (((Con.mem_iff (.mk k nm lo hi ad cap ps) v).1 h.1).1) hp) (by omega) (by first | omega | (simp only [Con.parts]; omega) | (simp [Con.parts]; done))) rfl (a_ (aH_ (ad := ad) (us := p.cells) x_ k_ rfl (fun v _ h => ((Con.mem_iff (.mk k nm lo hi ad cap ps) v).1 h.1).1) (Con.cells_len _) (ao_ Con.cells_len hp)) rfl (an_ aw_ rfl fun b4 => ?_)))))))))
    refine dw_ 0 k_ rfl rfl rfl rfl (d_ (c_ rfl (f_ ?_)))
    refine aW_ [(b4, .cells p.cells.toArray 38 (0, 0)), (b1, .cells #[.int .i64 k, str nm, .int .i64 lo, .int .i64 hi, .slice ad ps.length cap] 38 (0, 0))] (by kernel_rfl) ?_
    refine ab_ 5 [0, 1, 3] (by kernel_rfl) (fun _ a b => ⟨Vw.sat.sub a, b⟩) (s_ rfl (bx_ (cs := [zp_ kb 0]) jg_ rfl (fun v _ h => h.2.2.1) rfl) rfl (s_ rfl (G_ 1 x_ k_ rfl rfl rfl) rfl (s_ rfl (cs_ 0 x_ k_ rfl rfl) rfl (aa_ (H_ 2 rfl (by kernel_rfl) (A_ (bK_ (.mk k nm lo hi ad cap ps) hok) rfl (.refl _) (fun v _ h => ⟨h.1, h.2.1, trivial⟩) rfl fun _ => ?_))))))
    refine d_ (o_ rfl (u_ (fun _ a b => ⟨Vw.sat.sub a, b⟩) (H_ 4 rfl (by kernel_rfl) (A_ (bK_ p (Con.ok_part (c := (.mk k nm lo hi ad cap ps)) hok hpm)) rfl (.refl _) (fun v _ h => ⟨Con.mem_part (c := (.mk k nm lo hi ad cap ps)) h.1 hpm, h.2.1, trivial⟩) rfl fun _ => ?_))))
    refine d_ (o_ rfl (u_ (fun _ a b => ⟨Vw.sat.sub a, b⟩) (ab_ 2 [5] (by kernel_rfl) (fun _ a b => ⟨Vw.sat.sub a, b⟩) (s_ rfl (N_ by_ rfl rfl) rfl (aa_ (H_ 6 rfl (by kernel_rfl) (X_ I_ U_ af_ rfl rfl rfl rfl rfl rfl fun b5 => ?_)))))))
    refine d_ (o_ rfl (u_ (fun _ a b => ⟨Vw.sat.sub a.tail, b⟩) (H_ 7 rfl (by kernel_rfl) (A_ (cw_ ⟨1, Con.atom (.mk k nm lo hi ad cap ps), [], p.atom, [], [], [], 0, 0, 0⟩ frm (Con.rightP.rights frm (Con.atom (.mk k nm lo hi ad cap ps)) (ps.take i) l) q0 hk.2 (by have := Con.rights_len frm (Con.atom (.mk k nm lo hi ad cap ps)) ps i l; have := Con.sz_at hp; have := p.sz_pos; omega)) rfl (.cons _ (@List.perm_append_comm _ [_, _] _)) (fun _ _ _ => trivial) rfl fun x => ?_))))
    obtain ⟨q9, hq9⟩ := x
    refine Y_ (@List.perm_append_comm _ _ [_, _]) (d_ (o_ rfl (u_ (fun _ a b => ⟨Vw.sat.sub a, b⟩) (ad_ (by kernel_rfl) (c_ rfl (b_ (a_ (bx_ (cs := [rFn bs bk]) eU_ rfl (fun v _ h => h.2.2.2.1) rfl) rfl (a_ (cs_ 0 x_ k_ rfl rfl) rfl (aE_ (ih p (by have := Con.sz_part (c := (.mk k nm lo hi ad cap ps)) hpm; omega) (Con.ok_part (c := (.mk k nm lo hi ad cap ps)) hok hpm) (Con.fine_part (c := (.mk k nm lo hi ad cap ps)) hf hpm) (ins frm (Con.rightP.rights frm (Con.atom (.mk k nm lo hi ad cap ps)) (ps.take i) l) ⟨1, Con.atom (.mk k nm lo hi ad cap ps), [], p.atom, [], [], [], 0, 0, 0⟩) q9 hq9 (by have := Con.rights_len frm (Con.atom (.mk k nm lo hi ad cap ps)) ps i l; have := Con.sz_at hp; have := aY_ frm (Con.rightP.rights frm (Con.atom (.mk k nm lo hi ad cap ps)) (ps.take i) l) ⟨1, (Con.atom (.mk k nm lo hi ad cap ps)), [], p.atom, [], [], [], 0, 0, 0⟩; omega)) rfl rfl (@List.perm_append_comm _ [_, _] _) (fun v _ h => by exact ⟨Con.mem_part (c := (.mk k nm lo hi ad cap ps)) h.1 hpm, h.2⟩) rfl fun x => ?_)))))))))
    obtain ⟨q10, hq10⟩ := x
    refine Y_ (@List.perm_append_comm _ _ [_, _]) (d_ (c_ rfl (b_ (a_ (R_ rfl rfl rfl (aq_ (by omega) (by omega))) rfl (a_ (g_ rfl) rfl (d_ (o_ rfl ?_)))))))
    exact av_ ⟨(i + 1, q10), hlt, by rw [Con.rights_step frm _ hp]; exact hq10⟩ (by simp; omega) ⟨rfl, rfl, rfl, rfl, rfl, rfl, trivial⟩ (F := [_]) (@List.perm_append_comm _ [_] _) (fun _ _ h => h)
end Go.Proofs.YtoafjmalfclpoaaGreatDoor
