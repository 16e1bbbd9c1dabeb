/-
  Part of the proof of the law SaturateBase over this seat: the small logic, the data, the contracts of functions (no condition).
-/
import Derived.Test.YtpdbbglpbngeiaaGreatDoorQSaturateBase5
import Derived.Test.YtpdbbglpbngeiaaGreatDoorQSaturateBase1
import Derived.Test.YtpdbbglpbngeiaaGreatDoorQSaturateBase2
import Derived.Maps.RangeRun
import Derived.Test.YtpdbbglpbngeiaaGreatDoorQSaturateBase3
import Derived.Test.YtpdbbglpbngeiaaGreatDoorQSaturateBase4
set_option linter.unusedVariables false
set_option linter.unusedSimpArgs false
set_option linter.unusedSectionVars false
namespace Go.Sx
open Go
section
variable {P : Program} {N : Nat} {v0 : Vw} {H0 : Hp} {R : Exit → Act → World → Prop} {Kk : List Kt} {fr : Fr} {H : Hp} {Γ : List Fct}
variable {ops : Array Oper} {lo : List Oper} {d : Nat} {ty : TypeId} {ps : String} {af : Array Edge}
variable {K : Type} [DecidableEq K] {kv : K → Value}
theorem pC_ {o : Op} {t kt et : TypeId} {x y z : Operand} {b c : Nat} (n : Nat) {es : Array MapEntry} {q : List K} {k : K} (hK : KeyT P kt kv) (ho : o = .insert t x y z ∨ o = .mapUpdate t x y z) (hu : ∀ w, (underlying t).run P w = .ok (.map kt et) w)
    (hx : Fr.ev fr x = some (.map (some b))) (hy : Fr.ev fr y = some (kv k)) (hz : Fr.ev fr z = some (.bool true)) (hi : H[n]? = some (b, .map es c)) (hq : SetE kv es q)
    (hkk : ∀ es' c', SetE kv es' (if k ∈ q then q else q ++ [k]) → (Born es c → Born es' c') → Ops P R N v0 H0 ops lo Kk fr (H.set n (b, .map es' c')) Γ) : Ops P R N v0 H0 ops (⟨none, o, ty, ps, af, none⟩ :: lo) Kk fr H Γ := by
  by_cases hk : k ∈ q
  · obtain ⟨i, e, g1, g2, g3, g4, g5⟩ := hq.yes hK hk
    refine hH_ n hK ho hu hx hy hz hi g5 g2 g3 ?_
    rw [iZ_ g2 g3 g4]
    exact hkk es c (by rw [if_pos hk]; exact hq) id
  · exact bL_ n ho hu hx hy hz hi (hK.ok k) (hq.no hK hk) (hkk _ _ (by rw [if_neg hk]; exact hq.push hk c) (fun hB => hB.push _ _))
theorem pA_ {t kt et : TypeId} {x : Operand} {b c : Nat} (n : Nat) {es : Array MapEntry} (hu : P.underlying t = some (.map kt et)) (hx : Fr.ev fr x = some (.map (some b))) (hi : H[n]? = some (b, .map es c)) (hN : Nat.blt d N = true)
    (hk : ∀ r, Ops P R N v0 H0 ops lo Kk ((d, .pointer (some ⟨r, 0, none⟩)) :: fr) ((r, .mapIter (some b) c #[] c) :: H) Γ) : Ops P R N v0 H0 ops (⟨some d, .range t x, ty, ps, af, none⟩ :: lo) Kk fr H Γ :=
  gq_ (x := fun b => .pointer (some ⟨b, 0, none⟩)) hN (fun a v h1 h2 _ => by
    have hb := (h2.own _ (List.mem_of_getElem? hi)).1
    simp [execOp, h1.ev hx, run_range_map v.w t kt et b es c hu hb]) hk
theorem qM_ {it : Operand} {b r c since c0 : Nat} {es : Array MapEntry} {seen : Array Nat} (n m : Nat) (hit : Fr.ev fr it = some (.pointer (some ⟨r, 0, none⟩))) (hr : H[n]? = some (r, .mapIter (some b) since seen c0)) (hb : H[m]? = some (b, .map es c)) (hold : ∀ x ∈ es.toList, x.born < since) (hsc : since ≤ c0) (hN : Nat.blt d N = true)
    (h0 : (leftOf es seen).size = 0 → Ops P R N v0 H0 ops lo Kk ((d, .tuple #[.bool false]) :: fr) H Γ)
    (hk : ∀ e, e ∈ (leftOf es seen).toList → Ops P R N v0 H0 ops lo Kk ((d, .tuple #[.bool true, e.key, e.val]) :: fr) (H.set n (r, .mapIter (some b) since (seen.push e.born) c)) Γ) : Ops P R N v0 H0 ops (⟨some d, .next it false, ty, ps, af, none⟩ :: lo) Kk fr H Γ :=
  du_ rfl fun a v h1 h2 h3 h4 => by
    have hrr := (h2.own _ (List.mem_of_getElem? hr)).1
    have hbb := (h2.own _ (List.mem_of_getElem? hb)).1
    unfold Oper.wp
    rcases run_next_at (P := P) v.w ty r b since c0 seen es c hrr hbb hold hsc with ⟨e0, hrun⟩ | ⟨e, he, w1, hal, hrun⟩
    · have hx : (execOp a.eval ⟨some d, .next it false, ty, ps, af, none⟩).run P v.w = .ok (.value (.tuple #[.bool false])) v.w := by simp [execOp, h1.ev hit, hrun]
      rw [hx]
      exact h0 e0 _ v (h1.put hN) h2 h3 h4
    · have hx : (execOp a.eval ⟨some d, .next it false, ty, ps, af, none⟩).run P v.w = .ok (.value (.tuple #[.bool true, e.key, e.val])) (ChangeMaps.setBlock w1 r (.mapIter (some b) since (seen.push e.born) c)) := by simp [execOp, h1.ev hit, hrun]
      rw [hx]
      have hr1 : w1.heap[r]? = some (.mapIter (some b) since seen c0) := by rcases hal with rfl | rfl <;> exact hrr
      have hlt : r < w1.heap.size := (Array.getElem?_eq_some_iff.1 hr1).1
      have hw : w1.heap = v.w.heap := by rcases hal with rfl | rfl <;> rfl
      have hdr : v.w.drawn ≤ w1.drawn := by
        rcases hal with rfl | rfl
        · exact Nat.le_refl _
        · exact Nat.le_succ _
      obtain ⟨g1, g2⟩ := fy_ (w' := ChangeMaps.setBlock w1 r (.mapIter (some b) since (seen.push e.born) c)) h2 hr (by rcases hal with rfl | rfl <;> rfl) (by rcases hal with rfl | rfl <;> rfl) (by rcases hal with rfl | rfl <;> rfl) hdr (by simp [ChangeMaps.setBlock, hw])
        (by simp only [ChangeMaps.setBlock]; rw [Array.getElem?_setIfInBounds_self_of_lt hlt]) (fun k hk => by simp only [ChangeMaps.setBlock]; rw [Array.getElem?_setIfInBounds_ne (Ne.symm hk), hw])
      exact hk e he _ ⟨v.im, _, v.sl⟩ (h1.put hN) g1 (h3.trans g2) (bd_ (g2.le h2) h4)
theorem oV_ {it : Operand} {b r c since : Nat} {es : Array MapEntry} {seen : Array Nat} {e : MapEntry} (n m : Nat) (hit : Fr.ev fr it = some (.pointer (some ⟨r, 0, none⟩))) (hr : H[n]? = some (r, .mapIter (some b) since (seen.push e.born) c)) (hb : H[m]? = some (b, .map es c)) (he : e ∈ es.toList) (hB : Born es c) :
    Yld P N fr H Γ (.entry it) ty (.tuple #[e.key, e.val]) :=
  fun a v h1 h2 _ _ _ _ => by
    have := run_entry_at (P := P) v.w r b since seen es c e (h2.own _ (List.mem_of_getElem? hr)).1 (h2.own _ (List.mem_of_getElem? hb)).1 he hB.nd
    simp [execOp, h1.ev hit, this]
structure ItS (kv : K → Value) (es : Array MapEntry) (seen : Array Nat) (done : List K) : Prop where
  nd : done.Nodup
  mem : ∀ e ∈ es.toList, seen.contains e.born = true ↔ ∃ k ∈ done, e.key = kv k
  sub : ∀ k ∈ done, ∃ e ∈ es.toList, e.key = kv k
theorem ItS.nil {es : Array MapEntry} : ItS kv es #[] [] := ⟨List.nodup_nil, fun e _ => by simp, fun k hk => by simp at hk⟩
theorem SetE.entry {es : Array MapEntry} {q : List K} (hE : SetE kv es q) (hi : ∀ x y, kv x = kv y → x = y) {x e : MapEntry} (hx : x ∈ es.toList) (he : e ∈ es.toList) (h : x.key = e.key) : x = e := by
  obtain ⟨i, hi1, hi2⟩ := List.getElem_of_mem hx
  obtain ⟨j, hj1, hj2⟩ := List.getElem_of_mem he
  have hl := congrArg List.length hE.keys
  simp only [List.length_map] at hl
  have key : ∀ (k : Nat) (hk : k < es.toList.length), es.toList[k].key = kv (q[k]'(by omega)) := fun k hk => by
    have := congrArg (fun l => l[k]?) hE.keys
    simp only [List.getElem?_map] at this
    rw [List.getElem?_eq_getElem hk, List.getElem?_eq_getElem (by omega)] at this
    simpa using this
  have e1 := key i hi1
  have e2 := key j hj1
  rw [hi2] at e1
  rw [hj2] at e2
  have e3 := hi _ _ (e1.symm.trans (h.trans e2))
  have hij : i = j := by
    rcases Nat.lt_trichotomy i j with h1 | h1 | h1
    · exact absurd e3 (List.pairwise_iff_getElem.1 hE.nd i j (by omega) (by omega) h1)
    · exact h1
    · exact absurd e3.symm (List.pairwise_iff_getElem.1 hE.nd j i (by omega) (by omega) h1)
  subst hij
  rw [← hi2, ← hj2]
theorem SetE.ofKey {es : Array MapEntry} {q : List K} (hE : SetE kv es q) {e : MapEntry} (he : e ∈ es.toList) : ∃ k ∈ q, e.key = kv k := by
  have : e.key ∈ es.toList.map (·.key) := List.mem_map_of_mem he
  rw [hE.keys] at this
  obtain ⟨k, hk, h⟩ := List.mem_map.1 this
  exact ⟨k, hk, h.symm⟩
theorem ItS.step {es : Array MapEntry} {q : List K} {c : Nat} {seen : Array Nat} {done : List K} {e : MapEntry} (hi : ∀ x y, kv x = kv y → x = y) (hE : SetE kv es q) (hB : Born es c) (h : ItS kv es seen done) (he : e ∈ (leftOf es seen).toList) :
    ∃ k, k ∈ q ∧ k ∉ done ∧ e.key = kv k ∧ e ∈ es.toList ∧ ItS kv es (seen.push e.born) (done ++ [k]) := by
  unfold leftOf at he
  rw [Array.toList_filter, List.mem_filter] at he
  obtain ⟨h1, h2⟩ := he
  obtain ⟨k, hk, hkv⟩ := hE.ofKey h1
  have hnd : k ∉ done := fun hm => by
    have := (h.mem e h1).2 ⟨k, hm, hkv⟩
    rw [this] at h2
    simp at h2
  refine ⟨k, hk, hnd, hkv, h1, ⟨?_, fun x hx => ?_, fun y hy => ?_⟩⟩
  · rw [List.nodup_append]; exact ⟨h.nd, by simp, fun a ha b hb e => by simp at hb; subst hb; subst e; exact hnd ha⟩
  · rw [Array.contains_push, Bool.or_eq_true, h.mem x hx, beq_iff_eq]
    constructor
    · rintro (⟨y, hy, hyv⟩ | h3)
      · exact ⟨y, by simp [hy], hyv⟩
      · have : x = e := by
          have hn := hB.nd
          obtain ⟨i, hi1, hi2⟩ := List.getElem_of_mem hx
          obtain ⟨j, hj1, hj2⟩ := List.getElem_of_mem h1
          have hij : i = j := by
            rcases Nat.lt_trichotomy i j with g | g | g
            · exact ((List.pairwise_iff_getElem.1 hn i j (by simpa using hi1) (by simpa using hj1) g) (by simp only [List.getElem_map, hi2, hj2, h3])).elim
            · exact g
            · exact ((List.pairwise_iff_getElem.1 hn j i (by simpa using hj1) (by simpa using hi1) g) (by simp only [List.getElem_map, hi2, hj2, h3])).elim
          subst hij
          rw [← hi2, ← hj2]
        exact ⟨k, by simp, this ▸ hkv⟩
    · rintro ⟨y, hy, hyv⟩
      rcases List.mem_append.1 hy with hy | hy
      · exact .inl ⟨y, hy, hyv⟩
      · rw [List.mem_singleton] at hy
        subst hy
        exact .inr (congrArg MapEntry.born (hE.entry hi hx h1 (hyv.trans hkv.symm)))
  · rcases List.mem_append.1 hy with hy | hy
    · exact h.sub y hy
    · rw [List.mem_singleton] at hy
      subst hy
      exact ⟨e, h1, hkv⟩
theorem ItS.end {es : Array MapEntry} {q : List K} {seen : Array Nat} {done : List K} (hi : ∀ x y, kv x = kv y → x = y) (hE : SetE kv es q) (h : ItS kv es seen done) (h0 : (leftOf es seen).size = 0) : done.Perm q := by
  refine (List.perm_ext_iff_of_nodup h.nd hE.nd).2 fun k => ⟨fun hk => ?_, fun hk => ?_⟩
  · obtain ⟨e, he, hkv⟩ := h.sub k hk
    obtain ⟨k', hk', hkv'⟩ := hE.ofKey he
    exact hi _ _ (hkv.symm.trans hkv') ▸ hk'
  · have : kv k ∈ es.toList.map (·.key) := by rw [hE.keys]; exact List.mem_map_of_mem hk
    obtain ⟨e, he, hkv⟩ := List.mem_map.1 this
    have hs : seen.contains e.born = true := by
      cases hc : seen.contains e.born
      · exfalso
        have : e ∈ (leftOf es seen).toList := by unfold leftOf; rw [Array.toList_filter, List.mem_filter]; exact ⟨he, by simp only [hc]; rfl⟩
        have h1 := List.length_pos_of_mem this
        simp only [Array.length_toList] at h1
        omega
      · rfl
    obtain ⟨k', hk', hkv'⟩ := (h.mem e he).1 hs
    exact hi _ _ (hkv.symm.trans hkv') ▸ hk'
end
section
variable {P : Program} {N : Nat} {v0 : Vw} {H0 : Hp} {R : Exit → Act → World → Prop} {K : List Kt} {fr : Fr} {H F : Hp} {Γ : List Fct}
def ru_ {σ : Type} (v0 : Vw) (H0 : Hp) (Hj : σ → Hp) (ok : σ → Prop) (HL : Hp) : Exit → Act → World → Prop
  | .normal, _, w => ∃ s' v, ok s' ∧ v.w = w ∧ v.sat (Hj s' ++ HL) ∧ v0.to H0 v (Hj s' ++ HL)
  | _, _, _ => False
theorem md_ {σ ι : Type} {l D : Nat} {rec : Loop} {pm : Nat} {x : Value} {Hj : σ → Hp} {s : σ} {ok : σ → Prop} (frA : ι → Fr) (HA : ι → Hp)
  (hp : rec.params = #[pm]) (hst : rec.state = .ready) (hpe : rec.pending = none) (ht : Fr.sat N fr ⟨rec.tmps, []⟩) (hpm : Nat.blt pm N = true)
  (hassign : ∀ n v0 H0 HL, hf_ (Fence.wide.inRound l) n P (Mid N v0 H0 frA (fun i => HA i ++ HL) (fun _ => Γ)) N [] v0 H0 rec.assign [] ((pm, x) :: fr) (Hj s ++ HL) Γ)
  (hbody : ∀ n v0 H0 HL i, hf_ (Fence.wide.inRound l) n P (ru_ v0 H0 Hj ok HL) N [] v0 H0 rec.body [] (frA i) (HA i ++ HL) Γ) :
  kK_ P l x (Hj s ++ HLp l D rec) Γ (fun _ : {s' : σ // ok s'} => .bool true) (fun s' => Hj s'.1 ++ HLp l D rec) (fun _ => []) := by
 intro v hs hΓ
 have hpl : ∀ (X : Hp) r, (X ++ HLp l D r).Perm ((l, .loop r) :: (X ++ [(D, .deferred (some []))])) := fun X r => by
  unfold HLp
  exact List.perm_middle
 have hl : v.w.heap[l]? = some (.loop rec) := ((hs.perm (hpl _ _)).own _ List.mem_cons_self).1
 refine ⟨rec.fn, _, rec.assign, rec.body, run_yield hl (by simp [hp]), fun n => roundIn_of_wpIn trivial ?_⟩
 have htm : (rec.params.zip #[x]).foldl (fun tmps (t, a) => tmps.setIfInBounds t a) rec.tmps = rec.tmps.setIfInBounds pm x := by simp [hp]
 rw [htm]
 have hsat : Fr.sat N ((pm, x) :: fr) ⟨rec.tmps.setIfInBounds pm x, []⟩ := ht.put hpm
 refine wpIn_mono (fI_.1 (hassign n v (Hj s ++ HLp l D rec) (HLp l D rec)) ⟨rec.tmps.setIfInBounds pm x, []⟩ v hsat hs (Vw.to.refl _ _) hΓ) ?_
 rintro e a1 w1 ⟨rfl, i, v1, rfl, k1, k2, k3, k4⟩
 have k2' := k2.perm (hpl _ _)
 have hl1 := (k2'.own _ List.mem_cons_self).1
 obtain ⟨m1, m2⟩ := fa_ (o' := .loop { rec with state := .busy }) k2'
 refine ⟨_, run_beginRound hl1 hst, ?_⟩
 have m3 := m1.perm (hpl (HA i) { rec with state := .busy }).symm
 have m4 : v.to (Hj s ++ HLp l D rec) ⟨v1.im, v1.w.putObj l (.loop { rec with state := .busy }), v1.sl⟩ (HA i ++ HLp l D { rec with state := .busy }) :=
  (k3.trans ((m2.permL (hpl _ _).symm).subR fun b hb => ((hpl (HA i) { rec with state := .busy }).map Prod.fst).mem_iff.1 hb))
 have k4' := bd_ (m2.le k2') k4
 refine wpIn_mono (fI_.1 (hbody n v (Hj s ++ HLp l D rec) (HLp l D { rec with state := .busy }) i) a1 ⟨v1.im, _, v1.sl⟩ k1 m3 m4 k4') ?_
 intro e2 a2 w2 hq
 cases e2 with
 | normal =>
  obtain ⟨s', v2, hok, rfl, q1, q2⟩ := hq
  have q1' := q1.perm (hpl _ _)
  have hl2 := (q1'.own _ List.mem_cons_self).1
  obtain ⟨z1, z2⟩ := fa_ (o' := .loop rec) q1'
  have er : ({ rec with state := .ready, pending := none } : Loop) = rec := by cases rec; simp_all
  refine ⟨_, _, run_endRound none hl2, ⟨s', hok⟩, ⟨v2.im, v2.w.putObj l (.loop rec), v2.sl⟩, rfl, ?_, z1.perm (hpl _ _).symm, trivial, q2.trans ((z2.permL (hpl _ _).symm).subR fun b hb => ((hpl (Hj s') rec).map Prod.fst).mem_iff.1 hb)⟩
  simp [er]
 | ret => exact hq.elim
 | exit id => exact hq.elim
 | goto t => exact hq.elim
 | panic c => exact hq.elim
 | outgrown => exact hq.elim
theorem nz_ {σ : Type} {Hj : σ → Hp} {HL G : Hp} {ok : σ → Prop} (s' : σ) (hr : ok s') (hH : H.Perm (Hj s' ++ HL ++ G)) : OkD N [] v0 H0 (ru_ v0 H0 Hj ok HL .normal) fr H Γ :=
  kb_ (Γ' := []) hH (fun _ _ _ => trivial) fun a v h1 h2 h3 _ => ⟨s', v, hr, rfl, h2, h3⟩
theorem ny_ {σ α : Type} {g : Operand} {pm : Nat} {assign body : Code} {gf : FuncId} {caps : List Value} {Hj : σ → Hp} {Hc : Hp} {Γi : List Fct} {xv : α → Value} {good : σ → α → Prop} {nx : α → σ → σ → Prop} {Rc : σ → Prop}
    (s0 : σ) (hg : Fr.ev fr g = some (.func (.func gf) #[] caps.toArray)) (hH : H.Perm (Hc ++ Hj s0)) (hΓi : ∀ v, v.sat H → aM_ Γ v → aM_ Γi v)
    (hround : ∀ l D (rec : Loop), rec.params = #[pm] → rec.state = .ready → rec.pending = none → Fr.sat N fr ⟨rec.tmps, []⟩ → rec.assign = assign → rec.body = body → ∀ s x, good s x →
      kK_ P l (xv x) (Hj s ++ HLp l D rec) [] (fun _ : {s' : σ // nx x s s'} => .bool true) (fun s' => Hj s'.1 ++ HLp l D rec) (fun _ => []))
    (hit : ∀ l (Gj : σ → Hp), (∀ s x, good s x → kK_ P l (xv x) (Gj s) [] (fun _ : {s' : σ // nx x s s'} => .bool true) (fun s' => Gj s'.1) (fun _ => [])) →
      Tri P gf (.func (.yield l) #[] #[] :: caps).toArray (Hc ++ Gj s0) Γi (fun _ : {s' : σ // Rc s'} => .tuple #[]) (fun s' => Hc ++ Gj s'.1) (fun _ => []))
    (hnext : ∀ s', Rc s' → ∀ D l r, qe_ Fence.wide 0 P R N (pJ_ D) v0 H0 K fr (Hc ++ Hj s' ++ HLp l D r) Γ) :
    Run P R N v0 H0 (.rangeFunc g #[pm] assign body) K fr H Γ := by
  intro a v h1 h2 h3 h4
  refine wpIn_wide (n := 0) |>.1 (wpIn_mono (Q := eq_ Fence.wide 0 P R K) (wpIn_rangeFunc fun fn _ => ?_) fun e a w hq => bK_ K e a w hq)
  obtain ⟨a1, a2⟩ := gn_ (w' := v.w.alloc (.deferred (some []))) (o := .deferred (some [])) h2 rfl rfl rfl rfl (Nat.le_refl _)
  obtain ⟨rec, hrec⟩ : ∃ rec : Loop, rec = { state := .ready, pending := none, fn, tmps := a.tmps, params := #[pm], assign, body, defers := v.w.heap.size } := ⟨_, rfl⟩
  obtain ⟨b1, b2⟩ := gn_ (w' := (v.w.alloc (.deferred (some []))).alloc (.loop rec)) (o := .loop rec) a1 rfl rfl rfl rfl (Nat.le_refl _)
  have hsz : (v.w.alloc (Obj.deferred (some []))).heap.size = v.w.heap.size + 1 := by simp
  have b1' : (⟨v.im, (v.w.alloc (.deferred (some []))).alloc (.loop rec), v.sl⟩ : Vw).sat ((v.w.heap.size + 1, .loop rec) :: (v.w.heap.size, .deferred (some [])) :: H) := hsz ▸ b1
  have b2' : v.to H ⟨v.im, (v.w.alloc (.deferred (some []))).alloc (.loop rec), v.sl⟩ ((v.w.heap.size + 1, .loop rec) :: (v.w.heap.size, .deferred (some [])) :: H) := a2.trans (hsz ▸ b2)
  have hperm : ((v.w.heap.size + 1, Obj.loop rec) :: (v.w.heap.size, .deferred (some [])) :: H).Perm (Hc ++ (Hj s0 ++ HLp (v.w.heap.size + 1) v.w.heap.size rec)) := by
    rw [← List.append_assoc]
    exact (List.perm_append_comm (l₁ := HLp (v.w.heap.size + 1) v.w.heap.size rec) (l₂ := H)).trans (hH.append_right _)
  have hT := hit (v.w.heap.size + 1) (fun s => Hj s ++ HLp (v.w.heap.size + 1) v.w.heap.size rec)
    (hround _ _ rec (by rw [hrec]) (by rw [hrec]) (by rw [hrec]) (by rw [hrec]; exact ⟨h1.size, rfl, h1.val⟩) (by rw [hrec]) (by rw [hrec]))
  have hΓ2 := bd_ (b2'.le h2) (hΓi v h2 h4)
  have hΓ3 := bd_ (b2'.le h2) h4
  have he := h1.ev hg
  refine ⟨v.w.heap.size + 1, pJ_ v.w.heap.size, (v.w.alloc (.deferred (some []))).alloc (.loop rec), ⟨.fn (.func gf) caps.toArray, #[.func (.yield (v.w.heap.size + 1)) #[] #[]]⟩, (v.w.alloc (.deferred (some []))).alloc (.loop rec), gf, (.func (.yield (v.w.heap.size + 1)) #[] #[] :: caps).toArray, _, ?_, ?_, fun _ _ => trivial, ?_, fun h => (by cases h), callsIn_wide.2 ((hT.run ⟨v.im, _, v.sl⟩ (b1'.perm hperm) hΓ2).mono ?_)⟩
  · rw [hrec]; exact run_enterLoop_outer _ _ _ _ _
  · simp only [resolve, rangeCall, List.map_toArray, List.map_cons, List.map_nil, he, Deferred.ofValue]
    rfl
  · have := hT.callable (.func (.yield (v.w.heap.size + 1)) #[] #[] :: caps).toArray ((v.w.alloc (.deferred (some []))).alloc (.loop rec))
    simpa [invoke] using this
  · rintro e w' ⟨⟨s', hRc⟩, v', rfl, rfl, g1, g2, g3⟩
    have g3' := b2'.trans (g3.permL hperm.symm)
    have hΓ4 := bd_ (g3'.le h2) h4
    have hsd : ∀ D', SatD N D' fr { a with defers := D' ++ a.defers } := fun D' => ⟨⟨h1.size, rfl, h1.val⟩, by show D' ++ a.defers = D'; rw [h1.defers]; simp⟩
    have hpl : ∀ (X Y : Hp) r, (Y ++ (X ++ HLp (v.w.heap.size + 1) v.w.heap.size r)).Perm ((v.w.heap.size + 1, .loop r) :: (Y ++ X ++ [(v.w.heap.size, .deferred (some []))])) := fun X Y r => by
      unfold HLp
      rw [← List.append_assoc]
      exact List.perm_middle
    have q := g1.perm (hpl (Hj s') Hc rec)
    have hl := (q.own _ List.mem_cons_self).1
    obtain ⟨z1, z2⟩ := fa_ (o' := .loop { rec with state := .exhausted }) q
    have zp : ((v.w.heap.size + 1, Obj.loop { rec with state := .exhausted }) :: (Hc ++ Hj s' ++ [(v.w.heap.size, .deferred (some []))])).Perm (Hc ++ Hj s' ++ HLp (v.w.heap.size + 1) v.w.heap.size { rec with state := .exhausted }) := by
      have := (hpl (Hj s') Hc { rec with state := .exhausted }).symm
      rw [← List.append_assoc] at this
      exact this
    refine ⟨rec.pending, _, run_endLoop hl (by rw [hrec]; simp), ?_⟩
    have hpn : rec.pending = none := by rw [hrec]
    split
    case h_2 => rename_i c hc; rw [hpn] at hc; cases hc
    exact hnext s' hRc _ _ _ _ ⟨v'.im, _, v'.sl⟩ (hsd _) (z1.perm zp) (h3.trans (g3'.trans ((z2.permL (hpl _ _ _).symm).subR fun b hb => (zp.map Prod.fst).mem_iff.2 hb))) (bd_ (z2.le q) hΓ4)
end
section
variable {Fc : Fence} {n : Nat} {P : Program} {N : Nat} {D : List Deferred} {v0 : Vw} {H0 : Hp} {R : Exit → Act → World → Prop} {K : List Kt} {fr : Fr} {H : Hp} {Γ : List Fct}
variable {ops : Array Oper} {l : List Oper} {d : Nat} {ty : TypeId} {ps : String} {af : Array Edge}
theorem pF_ {t e : TypeId} {len sz : Nat} {parts : List (Nat × Operand)} {vs : List (Nat × Value)} {zv : Value} {cs : List Value} (hF : Opn Fc) (hu : ∀ w, (underlying t).run P w = .ok (.slice e) w) (hs : ∀ w, (sizeOf e).run P w = .ok sz w) (hz : ∀ w, (zeroValue e).run P w = .ok zv w)
    (hzl : zv.cells.toList.length = sz) (hp : Nat.blt 0 (len * sz) = true) (hle : Nat.ble (len * sz) 16777216 = true) (hx : Fr.evp fr parts = some vs) (hf : jg_ (fun i => some (i * sz, sz)) (ln_ zv.cells.toList len) vs = some cs) (hN : Nat.blt d N = true)
    (hk : ∀ b, fu_ Fc n P R N D v0 H0 ops l K ((d, .slice (some ⟨b, 0, none⟩) len len) :: fr) ((b, .cells cs.toArray e (0, 0)) :: H) Γ) : fu_ Fc n P R N D v0 H0 ops (⟨some d, .buildSlice t len parts.toArray, ty, ps, af, none⟩ :: l) K fr H Γ :=
  ef_ rfl fun a v h1 h2 h3 h4 => by
    refine ⟨fun f _ => hF.fn f, ?_⟩
    rw [semAt_eq rfl]
    have he : (execOp a.eval ⟨some d, .buildSlice t len parts.toArray, ty, ps, af, none⟩).run P v.w = .ok (.value (.slice (some ⟨v.w.heap.size, 0, none⟩) len len)) (v.w.alloc (.cells cs.toArray e (0, 0))) := by
      have hx' := h1.sat.evp hx
      have hf' := gY_ _ _ _ _ hf
      have hpos : 0 < len * sz := by simpa [Nat.blt_eq] using hp
      have hszp : 0 < sz := Nat.pos_of_mul_pos_left hpos
      have hle' : len * sz ≤ 16777216 := Nat.le_of_ble_eq_true hle
      have hr := jS_ zv.cells.toList (by omega) len
      rw [hzl] at hr
      simp only [Array.toArray_toList] at hr
      rw [← hr] at hf'
      have hx2 : (parts.map fun (i, x) => (i, a.eval x)) = vs := hx'
      simp only [execOp, Instr.buildSlice, Sem.run_bind, hu, Result.andThen_ok, hs, List.map_toArray, hx2]
      rw [if_neg (by omega), if_neg (by omega)]
      simp only [Sem.run_bind, Sem.run_pure, hz, Result.andThen_ok, hf']
      rfl
    rw [he]
    obtain ⟨g1, g2⟩ := gn_ (w' := v.w.alloc (.cells cs.toArray e (0, 0))) (o := .cells cs.toArray e (0, 0)) h2 rfl rfl rfl rfl (Nat.le_refl _)
    exact hk v.w.heap.size _ ⟨v.im, _, v.sl⟩ (h1.put hN) g1 (h3.trans g2) (bd_ (g2.le h2) h4)
theorem qN_ {k : Act → World → Prop} {H' : Hp} (hH : H.Perm H') (h : OkD N D v0 H0 k fr H' Γ) : OkD N D v0 H0 k fr H Γ :=
  fun a v h1 h2 h3 h4 => h a v h1 (h2.perm hH) (h3.subR fun b hb => (hH.map Prod.fst).mem_iff.2 hb) h4
theorem kH_ {t e : TypeId} {x y : Operand} {b off sz m : Nat} {sv : Value} {xs : List Value} {Hr : Hp} (hF : Opn Fc) (i : Nat) {cur : Array Value} {T : TypeId} (hrow : bt_ e sz sv m xs Hr) (hs : ∀ w, (sizeOf t).run P w = .ok 1 w)
    (hx : Fr.ev fr x = some (.pointer (some ⟨b, off, none⟩))) (hy : Fr.ev fr y = some sv) (hi : H[i]? = some (b, .cells cur T (0, 0))) (hf : Nat.ble (off + 1) cur.size = true)
    (hk : fu_ Fc n P R N D v0 H0 ops l K fr (H.set i (b, .cells (cur.toList.take off ++ [sv] ++ cur.toList.drop (off + 1)).toArray T (0, 0))) Γ) : fu_ Fc n P R N D v0 H0 ops (⟨none, .store t x y, ty, ps, af, none⟩ :: l) K fr H Γ :=
  fq_ hF i hs hx hy hi (by rw [(eI_ hrow).1]; rfl) hf (by rw [(eI_ hrow).1]; simp [(eI_ hrow).2]) (by rw [(eI_ hrow).1]; exact hk)
theorem mK_ {x y : Operand} {t e : TypeId} {sz by' m k c : Nat} {sv : Value} {xs news : List Value} {Hr F : Hp} {ad : Addr} (hF : Opn Fc) (he : Elt P t e sz by') (hrow : bt_ e sz sv m xs Hr)
    (hx : Fr.ev fr x = some sv) (hy : Fr.ev fr y = some (.slice (some ad) k c)) (hH : H.Perm (Hr ++ F)) (hl : news.length = k * sz) (hnews : ∀ v, v.sat H → aM_ Γ v → ∀ j u, news[j]? = some u → v.w.cell? (ad.add j) = some u) (h1c : ∀ u ∈ news, u.oneCell' = true)
    (h63 : m + k ≤ maxLen) (hb : (m + k) * by' ≤ 140737488355328) (hN : Nat.blt d N = true)
    (hk : ∀ sv' Hr', bt_ e sz sv' (m + k) (xs ++ news) Hr' → fu_ Fc n P R N D v0 H0 ops l K ((d, sv') :: fr) (Hr' ++ F) Γ) :
    fu_ Fc n P R N D v0 H0 ops (⟨some d, .call ⟨.builtin .append, #[x, y], #[t, t]⟩, ty, ps, af, none⟩ :: l) K fr H Γ :=
  ef_ rfl fun a v h1 h2 h3 h4 => by
    refine ⟨fun f _ => hF.fn f, ?_⟩
    rw [semAt_eq rfl]
    obtain ⟨i, z, hi, hz, es, eb, ez⟩ := he.info
    have g := h2.perm hH
    have hn := hnews v h2 h4
    have ho := hrow.owns g
    obtain ⟨v', w', hr, q1, q2, _⟩ := run_append_own (P := P) v.w 0 t ty e i z sz by' he.und hi hz es eb ez he.pos sv m xs ho ad k c news hl hn h1c h63 hb (Nat.zero_le _)
    obtain ⟨a1, a2⟩ := iw_ v.w he.und hi hz es ho hl hn h1c h63 (by rw [eb]; exact hb) hr
    obtain ⟨Hr', k1, k2, k3⟩ := lf_ hrow g q1 q2 a1 a2
    have e1 : a.eval x = sv := h1.sat.ev hx
    have e2 : a.eval y = .slice (some ad) k c := h1.sat.ev hy
    have hxx : (execOp a.eval ⟨some d, .call ⟨.builtin .append, #[x, y], #[t, t]⟩, ty, ps, af, none⟩).run P v.w = .ok (.value v') w' := by
      simp only [execOp, resolve, invoke, builtin, Sem.run_bind, Sem.run_pure, Result.andThen_ok, List.map_toArray, List.map_cons, List.map_nil, e1, e2, hr]
    rw [hxx]
    exact hk v' Hr' k1 _ ⟨v.im, w', v.sl⟩ (h1.put hN) k2 (h3.trans (k3.permL hH.symm)) (bd_ ((k3.permL hH.symm).le h2) h4)
end
end Go.Sx
namespace Go.Vs
open Go Go.Sx
def Ky.cells (k : Ky) : List Value := [.int .i64 k.kind, str k.role, str k.atom]
theorem Ky.cells_len (k : Ky) : k.cells.length = 3 := rfl
def Ky.val (k : Ky) : Value := .agg k.cells.toArray
def mo_ (s : hO_) : List Value := [str s.1, str s.2]
def gA_ (s : hO_) : Value := .agg (mo_ s).toArray
def Ky.eqb (p q : Ky) : Bool := (p.kind == q.kind) && ((p.role == q.role) && ((p.atom == q.atom) && true))
theorem Ky.eqb_eq (p q : Ky) : p.eqb q = decide (p = q) := by
  rw [Bool.eq_iff_iff]; cases p; cases q; simp [Ky.eqb]
def sI_ (p q : hO_) : Bool := (p.1 == q.1) && ((p.2 == q.2) && true)
theorem qq_ (p q : hO_) : sI_ p q = decide (p = q) := by
  rw [Bool.eq_iff_iff]; cases p; cases q; simp [sI_]
theorem Fc.cells_one (p : Fc) : p.cells.all Value.oneCell' = true := rfl
end Go.Vs
namespace Go.Sx
open Go Go.Vs
structure Emt (P : Program) (tF : TypeId) where
  stp : Fc → List Fc → List Fc
  kof : List Fc → List Fc
  St : List Fc → List Fc → Hp → Prop
  fn : FuncId
  caps : List Value
  ef : Fct
  kb : Nat
  fb : Nat
  grows : Grows stp kof
  emit : ∀ f nw fm H, St nw fm H → Tri P fn (f.val :: caps).toArray H [ef] (fun _ : {H' : Hp // St (stp f nw) fm H'} => .tuple #[]) (fun y => y.1) (fun _ => [])
  known : ∀ {nw fm H}, St nw fm H → ∃ es c, (kb, Obj.map es c) ∈ H ∧ SetE Fc.val es (kof nw)
  firm : ∀ {nw fm H}, St nw fm H → ∃ es c q, (fb, Obj.map es c) ∈ H ∧ SetE Fc.val es q ∧ ∀ f, f ∈ q ↔ f ∈ fm
  setf : ∀ {nw fm H} (f : Fc), St nw fm H → ∃ es c q Hr, H.Perm ((fb, Obj.map es c) :: Hr) ∧ SetE Fc.val es q ∧ (∀ f, f ∈ q ↔ f ∈ fm) ∧ ∀ es' c', SetE Fc.val es' (if f ∈ q then q else q ++ [f]) → ∃ H', St nw (f :: fm) H' ∧ H'.Perm ((fb, Obj.map es' c') :: Hr)
section
variable {P : Program} {N : Nat} {v0 : Vw} {H0 : Hp} {R : Exit → Act → World → Prop} {K : List Kt} {fr : Fr} {H : Hp} {Γ : List Fct}
variable {ops : Array Oper} {l : List Oper} {d : Nat} {ty : TypeId} {ps : String} {af : Array Edge} {tF : TypeId} {E : Emt P tF} {nw fm : List Fc} {Hs F : Hp}
theorem jV_ {b : Nat} {o : Obj} {v : Vw} (hp : H.Perm (Hs ++ F)) (hm : (b, o) ∈ Hs) (h : v.sat H) : v.w.heap[b]? = some o := (h.own _ (hp.mem_iff.2 (List.mem_append_left _ hm))).1
theorem hj_ {t et : TypeId} {x y : Operand} {f : Fc} (hS : E.St nw fm Hs) (hK : KeyT P tF Fc.val) (hu : ∀ w, (underlying t).run P w = .ok (.map tF et) w) (hz : ∀ w, (zeroValue et).run P w = .ok (.bool false) w) (hx : Fr.ev fr x = some (.map (some E.kb))) (hy : Fr.ev fr y = some f.val) (hp : H.Perm (Hs ++ F)) :
    Yld P N fr H Γ (.lookup t x y false) ty (.bool (decide (f ∈ E.kof nw))) := by
  obtain ⟨es, c, g1, g2⟩ := E.known hS
  exact cP_ hK hu hz hx hy g2 fun v h _ => jV_ hp g1 h
theorem mf_ {t et : TypeId} {x y : Operand} {f : Fc} (hS : E.St nw fm Hs) (hK : KeyT P tF Fc.val) (hu : ∀ w, (underlying t).run P w = .ok (.map tF et) w) (hz : ∀ w, (zeroValue et).run P w = .ok (.bool false) w) (hx : Fr.ev fr x = some (.map (some E.fb))) (hy : Fr.ev fr y = some f.val) (hp : H.Perm (Hs ++ F)) :
    Yld P N fr H Γ (.lookup t x y false) ty (.bool (decide (f ∈ fm))) := by
  obtain ⟨es, c, q, g1, g2, g3⟩ := E.firm hS
  have := cP_ (P := P) (N := N) (H := H) (Γ := Γ) (ty := ty) hK hu hz hx hy g2 fun v h _ => jV_ hp g1 h
  have e : decide (f ∈ q) = decide (f ∈ fm) := by rw [decide_eq_decide]; exact g3 f
  rw [← e]; exact this
theorem qL_ {o : Op} {t et : TypeId} {x y z : Operand} {f : Fc} (hS : E.St nw fm Hs) (hK : KeyT P tF Fc.val) (ho : o = .insert t x y z ∨ o = .mapUpdate t x y z) (hu : ∀ w, (underlying t).run P w = .ok (.map tF et) w)
    (hx : Fr.ev fr x = some (.map (some E.fb))) (hy : Fr.ev fr y = some f.val) (hz : Fr.ev fr z = some (.bool true)) (hp : H.Perm (Hs ++ F))
    (hk : ∀ Hs', E.St nw (f :: fm) Hs' → Ops P R N v0 H0 ops l K fr (Hs' ++ F) Γ) : Ops P R N v0 H0 ops (⟨none, o, ty, ps, af, none⟩ :: l) K fr H Γ := by
  obtain ⟨es, c, q, Hr, p1, p2, p3, p4⟩ := E.setf f hS
  refine ap_ (H' := (E.fb, .map es c) :: (Hr ++ F)) (hp.trans (by have := p1.append_right F; simpa using this)) (fQ_ 0 hK ho hu hx hy hz rfl p2 fun es' c' hs' => ?_)
  obtain ⟨H', q1, q2⟩ := p4 es' c' hs'
  simp only [List.set_cons_zero]
  exact ap_ (by have := (q2.append_right F).symm; simpa using this) (hk H' q1)
end
structure EngB where
  g : Nat
  pb : Nat
  ab : Nat
  ub : Nat
  ob : Nat
  ib : Nat
  rb : Nat
  sb : Nat
  lad : Option Addr
  lcap : Nat
  lps : List Str
structure EngA where
  p : Ky → Option Addr × Nat
  a : Str → Option Addr × Nat
  u : Str → Option Addr × Nat
  o : hO_ → Option Addr × Nat
  i : hO_ → Option Addr × Nat
  r : hO_ → Option Addr × Nat
  s : hO_ → Option Addr × Nat
def EngB.cells (B : EngB) {P : Program} {tF : TypeId} (E : Emt P tF) : List Value :=
  [.map (some B.pb), .slice B.lad B.lps.length B.lcap, .map (some E.kb), .func (.func E.fn) #[] E.caps.toArray, .map (some B.ab), .map (some B.ub), .map (some B.ob), .map (some B.ib), .map (some B.rb), .map (some B.sb), .map (some E.fb)]
structure IxH where
  a : Hp
  u : Hp
  o : Hp
  i : Hp
  r : Hp
  s : Hp
def IxO (tS tF : TypeId) (B : EngB) (x : Ix) (y : IxH) : Prop :=
  dm_ str bf_ tS 1 x.above B.ab y.a ∧ dm_ str bf_ tS 1 x.under B.ub y.u ∧ dm_ gA_ bf_ tS 1 x.frm B.ob y.o ∧ dm_ gA_ bf_ tS 1 x.into B.ib y.i ∧ dm_ gA_ Fc.cells tF 6 x.ranges B.rb y.r ∧ dm_ gA_ Fc.cells tF 6 x.firms B.sb y.s
end Go.Sx
namespace Go.Proofs.YtpdbbglpbngeiaaGreatDoor
open Go Go.Sx Go.Proofs
attribute [local irreducible] Code.wp wpList wpAnyH
open Go.Vs
theorem eqKy (p q : Ky) (w : World) : (Op.equalIn 10000 171 (Ky.val p) (Ky.val q)).run Tryz.prog w = .ok (decide (p = q)) w := by
  have h := run_equalIn_struct (P := Tryz.prog) w 9999 171 (Ky.cells p).toArray (Ky.cells q).toArray (by simp only [Program.fieldsOf, Tryz.underlying171]) Tryz.stoodInHeld171
  refine h.trans ?_
  rw [← Ky.eqb_eq]
  simp only [Program.fieldsOf, Tryz.underlying171]
  exact cg_ rfl J_ rfl rfl (eqI ac_ w) (cg_ rfl v_ rfl rfl (eqS bl_ w) (cg_ rfl v_ rfl rfl (eqS bl_ w) (ju_ w)))
theorem eqSpot (p q : hO_) (w : World) : (Op.equalIn 10000 145 (gA_ p) (gA_ q)).run Tryz.prog w = .ok (decide (p = q)) w := by
  have h := run_equalIn_struct (P := Tryz.prog) w 9999 145 (mo_ p).toArray (mo_ q).toArray (by simp only [Program.fieldsOf, Tryz.underlying145]) Tryz.stoodInHeld145
  refine h.trans ?_
  rw [← qq_]
  simp only [Program.fieldsOf, Tryz.underlying145]
  exact cg_ rfl v_ rfl rfl (eqS bl_ w) (cg_ rfl v_ rfl rfl (eqS bl_ w) (ju_ w))
theorem okKy (p : Ky) : hC_ Tryz.prog 171 (Ky.val p) := fun e w => by
  have hi : ∀ (n : Int) (w : World), (Instr.checkKey e (9998 + 1) 3 (.int .i64 n)).run Tryz.prog w = .ok () w := fun n w => MapKept.run_checkKey (d := .int .i64) ac_ (by simp [MapKept.IsKey]) e 9998
  have hs : ∀ (n : Str) (w : World), (Instr.checkKey e (9998 + 1) 9 (str n)).run Tryz.prog w = .ok () w := fun n w => MapKept.run_checkKey (d := .string) bl_ (by simp [MapKept.IsKey, str]) e 9998
  refine ckF (n := 9999) Tryz.underlying171 fun f hf => ?_
  simp only [List.mem_cons, List.not_mem_nil, or_false] at hf
  rcases hf with rfl | rfl | rfl
  · exact ⟨rfl, J_, _, rfl, hi _⟩
  · exact ⟨rfl, v_, _, rfl, hs _⟩
  · exact ⟨rfl, v_, _, rfl, hs _⟩
theorem okSpot (p : hO_) : hC_ Tryz.prog 145 (gA_ p) := fun e w => by
  have hi : ∀ (n : Int) (w : World), (Instr.checkKey e (9998 + 1) 3 (.int .i64 n)).run Tryz.prog w = .ok () w := fun n w => MapKept.run_checkKey (d := .int .i64) ac_ (by simp [MapKept.IsKey]) e 9998
  have hs : ∀ (n : Str) (w : World), (Instr.checkKey e (9998 + 1) 9 (str n)).run Tryz.prog w = .ok () w := fun n w => MapKept.run_checkKey (d := .string) bl_ (by simp [MapKept.IsKey, str]) e 9998
  refine ckF (n := 9999) Tryz.underlying145 fun f hf => ?_
  simp only [List.mem_cons, List.not_mem_nil, or_false] at hf
  rcases hf with rfl | rfl
  · exact ⟨rfl, v_, _, rfl, hs _⟩
  · exact ⟨rfl, v_, _, rfl, hs _⟩
theorem okFc (p : Fc) : hC_ Tryz.prog 41 (Fc.val p) := fun e w => by
  have hi : ∀ (n : Int) (w : World), (Instr.checkKey e (9998 + 1) 3 (.int .i64 n)).run Tryz.prog w = .ok () w := fun n w => MapKept.run_checkKey (d := .int .i64) ac_ (by simp [MapKept.IsKey]) e 9998
  have hs : ∀ (n : Str) (w : World), (Instr.checkKey e (9998 + 1) 9 (str n)).run Tryz.prog w = .ok () w := fun n w => MapKept.run_checkKey (d := .string) bl_ (by simp [MapKept.IsKey, str]) e 9998
  refine ckF (n := 9999) Tryz.underlying41 fun f hf => ?_
  simp only [List.mem_cons, List.not_mem_nil, or_false] at hf
  rcases hf with rfl | rfl | rfl | rfl | rfl | rfl
  · exact ⟨rfl, J_, _, rfl, hi _⟩
  · exact ⟨rfl, v_, _, rfl, hs _⟩
  · exact ⟨rfl, v_, _, rfl, hs _⟩
  · exact ⟨rfl, v_, _, rfl, hs _⟩
  · exact ⟨rfl, J_, _, rfl, hi _⟩
  · exact ⟨rfl, J_, _, rfl, hi _⟩
theorem fV_ : KeyT Tryz.prog 171 Ky.val := fB_ (K := Ky) Tryz.underlying171 okKy (fun p q w => eqKy p q w) fun k => ia_ (l := Ky.cells k) fun v hv => by
  simp only [Ky.cells, List.mem_cons, List.not_mem_nil, or_false] at hv
  rcases hv with rfl | rfl | rfl
  · exact eJ_ _ _
  · exact dr_ _ _
  · exact dr_ _ _
theorem cO_ : KeyT Tryz.prog 145 gA_ := fB_ (K := hO_) Tryz.underlying145 okSpot (fun p q w => eqSpot p q w) fun k => ia_ (l := mo_ k) fun v hv => by
  simp only [mo_, List.mem_cons, List.not_mem_nil, or_false] at hv
  rcases hv with rfl | rfl
  · exact dr_ _ _
  · exact dr_ _ _
theorem fW_ : KeyT Tryz.prog 41 Fc.val := fB_ (K := Fc) Tryz.underlying41 okFc (fun p q w => eqFc p q w) fun k => ia_ (l := Fc.cells k) fun v hv => by
  simp only [Fc.cells, List.mem_cons, List.not_mem_nil, or_false] at hv
  rcases hv with rfl | rfl | rfl | rfl | rfl | rfl
  · exact eJ_ _ _
  · exact dr_ _ _
  · exact dr_ _ _
  · exact dr_ _ _
  · exact eJ_ _ _
  · exact eJ_ _ _
theorem qV_ : KeyT Tryz.prog 47 Pc.val := fB_ (K := Pc) eW_ oD_ (fun p q w => eqPc p q w) fun k => ia_ (l := Pc.cells k) fun v hv => by
  simp only [Pc.cells, List.mem_cons, List.not_mem_nil, or_false] at hv
  rcases hv with rfl | rfl | rfl | rfl | rfl | rfl | rfl | rfl | rfl | rfl
  · exact eJ_ _ _
  · exact dr_ _ _
  · exact dr_ _ _
  · exact dr_ _ _
  · exact dr_ _ _
  · exact dr_ _ _
  · exact dr_ _ _
  · exact eJ_ _ _
  · exact eJ_ _ _
  · exact eJ_ _ _
theorem fU_ : KeyT Tryz.prog 9 str := qU_ bl_
theorem lO_ : Elt Tryz.prog 26 41 6 72 := lk_ Tryz.underlying26 (z := .agg #[.int .i64 0, str [], str [], str [], .int .i64 0, .int .i64 0]) (by kernel_rfl) rfl (by decide)
theorem elt_pc : Elt Tryz.prog 22 47 10 128 := lk_ Tryz.underlying22 (z := .agg #[.int .i64 0, str [], str [], str [], str [], str [], str [], .int .i64 0, .int .i64 0, .int .i64 0]) (by kernel_rfl) rfl (by decide)
theorem dq_ : Elt Tryz.prog 25 9 1 16 := lk_ gJ_ (z := .string ⟨#[]⟩) (by kernel_rfl) rfl (by decide)
theorem en_ : kE_ Tryz.prog 171 [(0, 1), (1, 1), (2, 1)] [.int .i64 0, str [], str []] := ⟨_, Tryz.zeroValue171, Tryz.runUnderlying171, fun w => by simp [I_, p_]⟩
theorem eZ_ : kE_ Tryz.prog 145 [(0, 1), (1, 1)] [str [], str []] := ⟨_, cA_, Tryz.runUnderlying145, fun w => by simp [p_]⟩
theorem strt94 : kE_ Tryz.prog 94 [(0, 1), (1, 1), (2, 1), (3, 1), (4, 1), (5, 1), (6, 1), (7, 1), (8, 1), (9, 1), (10, 1)] [.map none, .slice none 0 0, .map none, .nilFunc, .map none, .map none, .map none, .map none, .map none, .map none, .map none] := ⟨_, Tryz.zeroValue94, F_, fun w => by simp [bq_, do_, bv_, aR_, hQ_, dn_, sJ_]⟩
theorem cN_ (s : Str) : (bf_ s).all Value.oneCell' = true := rfl
def gF (B : EngB) (E : Emt Tryz.prog 41) : Fct := ct_ B.g (.cells (B.cells E).toArray 94 (0, 0))
def pF (B : EngB) (pm : List (Ky × Pc)) (A : EngA) : Fct := mlF Tryz.prog 171 Ky.val Pc.cells B.pb pm A.p
def aF (B : EngB) (x : Ix) (A : EngA) : Fct := mlF Tryz.prog 9 str bf_ B.ab x.above A.a
def uF (B : EngB) (x : Ix) (A : EngA) : Fct := mlF Tryz.prog 9 str bf_ B.ub x.under A.u
def oF (B : EngB) (x : Ix) (A : EngA) : Fct := mlF Tryz.prog 145 gA_ bf_ B.ob x.frm A.o
def iF (B : EngB) (x : Ix) (A : EngA) : Fct := mlF Tryz.prog 145 gA_ bf_ B.ib x.into A.i
def rF (B : EngB) (x : Ix) (A : EngA) : Fct := mlF Tryz.prog 145 gA_ Fc.cells B.rb x.ranges A.r
def sF (B : EngB) (x : Ix) (A : EngA) : Fct := mlF Tryz.prog 145 gA_ Fc.cells B.sb x.firms A.s
end Go.Proofs.YtpdbbglpbngeiaaGreatDoor
namespace Go.Proofs.YtpdbbglpbngeiaaGreatDoor
open Go Go.Sx Go.Proofs
attribute [local irreducible] Code.wp wpList wpAnyH
open Go.Vs
theorem es_ {α β : Type} {g : α → β} {l : List α} {i : Nat} {x : α} (h : l[i]? = some x) : List.map g (List.take (i + 1) l) = List.map g (List.take i l) ++ [g x] := by
  rw [List.take_add_one, h, Option.toList_some, List.map_append]; rfl
theorem eX_ (a b : Str) : Fn0 Tryz.prog 89 #[str a, str b] (Fc.val (ax_ a b)) := by
  refine R_ Tryz.func89 rfl rfl Tryz.ntmps89 rfl fun v0 => ?_
  refine f_ (d_ (al_ aT_ rfl fun b1 => ?_))
  refine e_ (b_ rfl (f_ (d_ (a_ (g_ rfl) rfl (a_ (g_ rfl) rfl (a_ (ao_ ix_ rfl rfl) rfl (ae_ 0 M_ rfl rfl rfl rfl rfl rfl (e_ (b_ rfl ?_)))))))))
  refine D_ ?_
  exact fP_ () (fun aa v h1 h2 => eh_ (us := Fc.cells (ax_ a b)) 0 Tryz.results89 af_ M_ rfl rfl rfl aa v h1 h2) X_ (fun _ _ _ => trivial)
theorem iI_ (a r b : Str) : Fn0 Tryz.prog 99 #[str a, str r, str b] (Fc.val (aN_ a r b)) := by
  refine R_ Tryz.func99 rfl rfl Tryz.ntmps99 rfl fun v0 => ?_
  refine f_ (d_ (al_ aT_ rfl fun b1 => ?_))
  refine e_ (b_ rfl (f_ (d_ (a_ (g_ rfl) rfl (a_ (g_ rfl) rfl (a_ (g_ rfl) rfl (a_ (ao_ ix_ rfl rfl) rfl (ae_ 0 M_ rfl rfl rfl rfl rfl rfl (e_ ?_)))))))))
  refine b_ rfl (D_ ?_)
  exact fP_ () (fun aa v h1 h2 => eh_ (us := Fc.cells (aN_ a r b)) 0 Tryz.results99 af_ M_ rfl rfl rfl aa v h1 h2) X_ (fun _ _ _ => trivial)
theorem iz_ (a r : Str) (lo hi : Int) : Fn0 Tryz.prog 90 #[str a, str r, .int .i64 lo, .int .i64 hi] (Fc.val (aJ_ a r lo hi)) := by
  refine R_ Tryz.func90 rfl rfl Tryz.ntmps90 rfl fun v0 => ?_
  refine f_ (d_ (al_ aT_ rfl fun b1 => ?_))
  refine e_ (b_ rfl (f_ (d_ (a_ (g_ rfl) rfl (a_ (g_ rfl) rfl (a_ (g_ rfl) rfl (a_ (g_ rfl) rfl (a_ (ao_ ix_ rfl rfl) rfl (ae_ 0 M_ rfl rfl rfl rfl rfl rfl ?_)))))))))
  refine e_ (b_ rfl (D_ ?_))
  exact fP_ () (fun aa v h1 h2 => eh_ (us := Fc.cells (aJ_ a r lo hi)) 0 Tryz.results90 af_ M_ rfl rfl rfl aa v h1 h2) X_ (fun _ _ _ => trivial)
theorem pW_ (B : EngB) (E : Emt Tryz.prog 41) (A : EngA) (pm : List (Ky × Pc)) (x : Ix) (f : Fc) (nw fm : List Fc) (Hs : Hp) (hS : E.St nw fm Hs) (hpl : ∀ k, (lat pm k).length ≤ 1000000000) (hxl : ∀ k, (lat x.above k).length ≤ 1000000000 ∧ (lat x.under k).length ≤ 1000000000) (hyl : ∀ k, (lat x.frm k).length ≤ 1000000000 ∧ (lat x.into k).length ≤ 1000000000 ∧ (lat x.ranges k).length ≤ 1000000000 ∧ (lat x.firms k).length ≤ 1000000000) : Tri Tryz.prog 100 #[zp_ B.g 0, Fc.val f] Hs [gF B E, pF B pm A, aF B x A, uF B x A, oF B x A, iF B x A, rF B x A, sF B x A, E.ef] (fun _ : {H' : Hp // E.St (emits E.stp (gd_ pm f) nw) fm H'} => .tuple #[]) (fun y => y.1) (fun _ => []) := by
  refine R_ Tryz.func100 rfl rfl Tryz.ntmps100 rfl fun v0 => ?_
  refine f_ (d_ (aI_ rfl rfl fun b1 => ?_))
  refine e_ (b_ rfl (f_ ?_))
  refine aE_ (by kernel_rfl) ?_
  refine ab_ 0 [0, 1, 2, 3, 4, 5, 6, 7, 8, 9] (by kernel_rfl) (fun _ a b => ⟨a, b⟩) (j_ rfl (g_ rfl) rfl (j_ rfl (ag_ rfl) rfl (j_ rfl (k_ F_ rfl rfl rfl do_) rfl (j_ rfl (Z_ dZ_ rfl (fun v _ h => by exact h.1) rfl) rfl (j_ rfl (k_ s_ rfl rfl rfl p_) rfl (j_ rfl (o_ 0 v_ rfl rfl rfl) rfl (j_ rfl (ao_ en_ rfl rfl) rfl (j_ rfl (ck_ (k := (Ky.mk 1 [] (Fc.b f))) (adr := A.p) fV_ cb_ cM_ rfl rfl (fun v _ h => by exact h.2.1)) rfl (j_ rfl (at_ T_ rfl) rfl ?_)))))))))
  refine j_ rfl (g_ rfl) rfl (aa_ (Y_ (by kernel_rfl) (b_ rfl (S_ ?_))))
  refine aV_ (ι := {y : Nat × Hp // y.1 ≤ List.length (lat pm (Ky.mk 1 [] (Fc.b f))) ∧ E.St (emits E.stp (List.map (fun y => ax_ (Fc.a f) (Pc.c y)) (List.take y.1 (lat pm (Ky.mk 1 [] (Fc.b f))))) nw) fm y.2}) (fun y => [(0, zp_ B.g 0), (3, zp_ b1 0), (13, .slice (Prod.fst (A.p (Ky.mk 1 [] (Fc.b f)))) (List.length (lat pm (Ky.mk 1 [] (Fc.b f)))) (Prod.snd (A.p (Ky.mk 1 [] (Fc.b f))))), (14, .int .i64 (List.length (lat pm (Ky.mk 1 [] (Fc.b f))) : Int)), (15, .int .i64 (y.1.1 : Int))]) (fun y => ((b1, .cells (Fc.cells f).toArray 41 (0, 0)) :: y.1.2)) (fun y => [gF B E, pF B pm A, aF B x A, uF B x A, oF B x A, iF B x A, rF B x A, sF B x A, E.ef]) (fun y => List.length (lat pm (Ky.mk 1 [] (Fc.b f))) - y.1.1) ⟨((0 : Nat), Hs), by simp, by exact hS⟩ ⟨rfl, rfl, rfl, rfl, rfl, trivial⟩ (l_ i_ be_) (fun _ _ h => h) ?_
  rintro ⟨⟨i, Hs_i⟩, hi_i, hS_i⟩
  dsimp only at hi_i hS_i ⊢
  have hb_i := hpl (Ky.mk 1 [] (Fc.b f))
  refine f_ (d_ (z_ (aC_ rfl rfl) rfl fun r1 hr1 => ?_))
  refine e_ (b_ rfl (f_ ?_))
  cases r1
  · skip
    replace hr1 := of_decide_eq_false hr1
    refine r_ rfl (ay_ rfl (aQ_ rfl ?_))
    exact ch_ Tryz.results100 ⟨Hs_i, by unfold gd_; rw [List.take_of_length_le (by omega)] at hS_i; exact hS_i⟩ rfl ad_ (fun _ _ _ => trivial)
  · skip
    replace hr1 := of_decide_eq_true hr1
    have hlx1 : i < List.length (lat pm (Ky.mk 1 [] (Fc.b f))) := by omega
    obtain ⟨x1, hx1⟩ : ∃ e0, (lat pm (Ky.mk 1 [] (Fc.b f)))[i]? = some e0 := ⟨_, List.getElem?_eq_getElem hlx1⟩
    have hmx1 : x1 ∈ (lat pm (Ky.mk 1 [] (Fc.b f))) := List.mem_of_getElem? hx1
    refine n_ rfl (B_ (b_ rfl (f_ (S_ (f_ (d_ (a_ (aj_ T_ W_ rfl rfl (fun v _ h => aO_ (n := 10) Pc.cells_len (by decide) (by exact (bJ_ h.2.1 (Ky.mk 1 [] (Fc.b f)))) hx1) (by omega) (by first | omega | (simp; done))) rfl (a_ (aG_ (ad := (Prod.fst (A.p (Ky.mk 1 [] (Fc.b f))))) (us := Pc.cells x1) bs_ W_ rfl (fun v _ h => by exact (bJ_ h.2.1 (Ky.mk 1 [] (Fc.b f)))) (Pc.cells_len _) (an_ Pc.cells_len hx1)) rfl (al_ as_ rfl fun b2 => ?_)))))))))
    refine ae_ 0 W_ rfl rfl rfl rfl rfl rfl (e_ (b_ rfl ?_))
    refine aD_ ((b2, .cells (Pc.cells x1).toArray 47 (0, 0)) :: ((b1, .cells (Fc.cells f).toArray 41 (0, 0)) :: [])) (by kernel_rfl) ?_
    refine ab_ 2 [0, 1, 2, 3, 4, 5, 6, 7] (by kernel_rfl) (fun _ a b => ⟨Vw.sat.sub (a.perm (l_ i_ i_)), b⟩) (j_ rfl (g_ rfl) rfl (j_ rfl (ag_ rfl) rfl (j_ rfl (k_ F_ rfl rfl rfl aR_) rfl (j_ rfl (Z_ bj_ rfl (fun v _ h => by exact h.1) rfl) rfl (j_ rfl (k_ s_ rfl rfl rfl p_) rfl (j_ rfl (o_ 1 v_ rfl rfl rfl) rfl (j_ rfl (k_ C_ rfl rfl rfl p_) rfl (j_ rfl (o_ 0 v_ rfl rfl rfl) rfl (aa_ ?_)))))))))
    refine N_ 8 rfl (by kernel_rfl) (Q_ (eX_ (Fc.a f) (Pc.c x1)) rfl X_ (fun _ _ _ => by exact trivial) rfl fun _ => ?_)
    refine e_ (t_ rfl (E_ (fun _ a b => ⟨Vw.sat.sub (a.perm (l_ i_ i_)), b⟩) (N_ 9 rfl (by kernel_rfl) (aF_ (first := []) (cap := E.caps) (E.emit (ax_ (Fc.a f) (Pc.c x1)) (emits E.stp (List.map (fun y => ax_ (Fc.a f) (Pc.c y)) (List.take i (lat pm (Ky.mk 1 [] (Fc.b f))))) nw) fm Hs_i hS_i) rfl rfl (c_ ad_) (fun v _ h => by exact ⟨h.2.2.2.2.2.2.2.2.1, trivial⟩) rfl fun ⟨Hs1, hS1⟩ => ?_))))
    dsimp only
    refine e_ (t_ rfl (E_ (fun _ a b => ⟨Vw.sat.sub (a.perm (l_ (m_ i_) ba_)), b⟩) (Y_ (by kernel_rfl) (b_ rfl (d_ (a_ (V_ rfl rfl rfl (am_ (by omega) (by omega))) rfl (a_ (g_ rfl) rfl (e_ (t_ rfl ?_)))))))))
    exact ah_ ⟨(i + 1, Hs1), hlx1, (by rw [es_ hx1, aU_]; exact hS1)⟩ (by dsimp only; omega) ⟨rfl, rfl, rfl, rfl, rfl, trivial⟩ (l_ (m_ (c_ i_)) q_) (fun _ _ h => h)
theorem some_c (B : EngB) (E : Emt Tryz.prog 41) (A : EngA) (pm : List (Ky × Pc)) (x : Ix) (f : Fc) (nw fm : List Fc) (Hs : Hp) (hS : E.St nw fm Hs) (hpl : ∀ k, (lat pm k).length ≤ 1000000000) (hxl : ∀ k, (lat x.above k).length ≤ 1000000000 ∧ (lat x.under k).length ≤ 1000000000) (hyl : ∀ k, (lat x.frm k).length ≤ 1000000000 ∧ (lat x.into k).length ≤ 1000000000 ∧ (lat x.ranges k).length ≤ 1000000000 ∧ (lat x.firms k).length ≤ 1000000000) : Tri Tryz.prog 102 #[zp_ B.g 0, Fc.val f] Hs [gF B E, pF B pm A, aF B x A, uF B x A, oF B x A, iF B x A, rF B x A, sF B x A, E.ef] (fun _ : {H' : Hp // E.St (emits E.stp (kQ_ pm f) nw) fm H'} => .tuple #[]) (fun y => y.1) (fun _ => []) := by
  refine R_ Tryz.func102 rfl rfl Tryz.ntmps102 rfl fun v0 => ?_
  refine f_ (d_ (aI_ rfl rfl fun b1 => ?_))
  refine e_ (b_ rfl (f_ ?_))
  refine aE_ (by kernel_rfl) ?_
  refine ab_ 0 [0, 1, 2, 3, 4, 5, 6, 7, 8, 9] (by kernel_rfl) (fun _ a b => ⟨a, b⟩) (j_ rfl (g_ rfl) rfl (j_ rfl (ag_ rfl) rfl (j_ rfl (k_ F_ rfl rfl rfl do_) rfl (j_ rfl (Z_ dZ_ rfl (fun v _ h => by exact h.1) rfl) rfl (j_ rfl (k_ s_ rfl rfl rfl p_) rfl (j_ rfl (o_ 0 v_ rfl rfl rfl) rfl (j_ rfl (ao_ en_ rfl rfl) rfl (j_ rfl (ck_ (k := (Ky.mk 3 [] (Fc.b f))) (adr := A.p) fV_ cb_ cM_ rfl rfl (fun v _ h => by exact h.2.1)) rfl (j_ rfl (at_ T_ rfl) rfl ?_)))))))))
  refine j_ rfl (g_ rfl) rfl (aa_ (Y_ (by kernel_rfl) (b_ rfl (S_ ?_))))
  refine aV_ (ι := {y : Nat × Hp // y.1 ≤ List.length (lat pm (Ky.mk 3 [] (Fc.b f))) ∧ E.St (emits E.stp (List.map (fun y => aN_ (Fc.a f) (Pc.r y) (Pc.c y)) (List.take y.1 (lat pm (Ky.mk 3 [] (Fc.b f))))) nw) fm y.2}) (fun y => [(0, zp_ B.g 0), (3, zp_ b1 0), (13, .slice (Prod.fst (A.p (Ky.mk 3 [] (Fc.b f)))) (List.length (lat pm (Ky.mk 3 [] (Fc.b f)))) (Prod.snd (A.p (Ky.mk 3 [] (Fc.b f))))), (14, .int .i64 (List.length (lat pm (Ky.mk 3 [] (Fc.b f))) : Int)), (15, .int .i64 (y.1.1 : Int))]) (fun y => ((b1, .cells (Fc.cells f).toArray 41 (0, 0)) :: y.1.2)) (fun y => [gF B E, pF B pm A, aF B x A, uF B x A, oF B x A, iF B x A, rF B x A, sF B x A, E.ef]) (fun y => List.length (lat pm (Ky.mk 3 [] (Fc.b f))) - y.1.1) ⟨((0 : Nat), Hs), by simp, by exact hS⟩ ⟨rfl, rfl, rfl, rfl, rfl, trivial⟩ (l_ i_ be_) (fun _ _ h => h) ?_
  rintro ⟨⟨i, Hs_i⟩, hi_i, hS_i⟩
  dsimp only at hi_i hS_i ⊢
  have hb_i := hpl (Ky.mk 3 [] (Fc.b f))
  refine f_ (d_ (z_ (aC_ rfl rfl) rfl fun r1 hr1 => ?_))
  refine e_ (b_ rfl (f_ ?_))
  cases r1
  · skip
    replace hr1 := of_decide_eq_false hr1
    refine r_ rfl (ay_ rfl (aQ_ rfl ?_))
    exact ch_ Tryz.results102 ⟨Hs_i, by unfold kQ_; rw [List.take_of_length_le (by omega)] at hS_i; exact hS_i⟩ rfl ad_ (fun _ _ _ => trivial)
  · skip
    replace hr1 := of_decide_eq_true hr1
    have hlx1 : i < List.length (lat pm (Ky.mk 3 [] (Fc.b f))) := by omega
    obtain ⟨x1, hx1⟩ : ∃ e0, (lat pm (Ky.mk 3 [] (Fc.b f)))[i]? = some e0 := ⟨_, List.getElem?_eq_getElem hlx1⟩
    have hmx1 : x1 ∈ (lat pm (Ky.mk 3 [] (Fc.b f))) := List.mem_of_getElem? hx1
    refine n_ rfl (B_ (b_ rfl (f_ (S_ (f_ (d_ (a_ (aj_ T_ W_ rfl rfl (fun v _ h => aO_ (n := 10) Pc.cells_len (by decide) (by exact (bJ_ h.2.1 (Ky.mk 3 [] (Fc.b f)))) hx1) (by omega) (by first | omega | (simp; done))) rfl (a_ (aG_ (ad := (Prod.fst (A.p (Ky.mk 3 [] (Fc.b f))))) (us := Pc.cells x1) bs_ W_ rfl (fun v _ h => by exact (bJ_ h.2.1 (Ky.mk 3 [] (Fc.b f)))) (Pc.cells_len _) (an_ Pc.cells_len hx1)) rfl (al_ as_ rfl fun b2 => ?_)))))))))
    refine ae_ 0 W_ rfl rfl rfl rfl rfl rfl (e_ (b_ rfl ?_))
    refine aD_ ((b2, .cells (Pc.cells x1).toArray 47 (0, 0)) :: ((b1, .cells (Fc.cells f).toArray 41 (0, 0)) :: [])) (by kernel_rfl) ?_
    refine ab_ 2 [0, 1, 2, 3, 4, 5, 6, 7, 8, 9] (by kernel_rfl) (fun _ a b => ⟨Vw.sat.sub (a.perm (l_ i_ i_)), b⟩) (j_ rfl (g_ rfl) rfl (j_ rfl (ag_ rfl) rfl (j_ rfl (k_ F_ rfl rfl rfl aR_) rfl (j_ rfl (Z_ bj_ rfl (fun v _ h => by exact h.1) rfl) rfl (j_ rfl (k_ s_ rfl rfl rfl p_) rfl (j_ rfl (o_ 1 v_ rfl rfl rfl) rfl (j_ rfl (k_ C_ rfl rfl rfl p_) rfl (j_ rfl (o_ 0 v_ rfl rfl rfl) rfl (j_ rfl (k_ C_ rfl rfl rfl p_) rfl ?_)))))))))
    refine j_ rfl (o_ 0 v_ rfl rfl rfl) rfl (aa_ (N_ 10 rfl (by kernel_rfl) (Q_ (iI_ (Fc.a f) (Pc.r x1) (Pc.c x1)) rfl X_ (fun _ _ _ => by exact trivial) rfl fun _ => ?_)))
    refine e_ (t_ rfl (E_ (fun _ a b => ⟨Vw.sat.sub (a.perm (l_ i_ i_)), b⟩) (N_ 11 rfl (by kernel_rfl) (aF_ (first := []) (cap := E.caps) (E.emit (aN_ (Fc.a f) (Pc.r x1) (Pc.c x1)) (emits E.stp (List.map (fun y => aN_ (Fc.a f) (Pc.r y) (Pc.c y)) (List.take i (lat pm (Ky.mk 3 [] (Fc.b f))))) nw) fm Hs_i hS_i) rfl rfl (c_ ad_) (fun v _ h => by exact ⟨h.2.2.2.2.2.2.2.2.1, trivial⟩) rfl fun ⟨Hs1, hS1⟩ => ?_))))
    dsimp only
    refine e_ (t_ rfl (E_ (fun _ a b => ⟨Vw.sat.sub (a.perm (l_ (m_ i_) ba_)), b⟩) (Y_ (by kernel_rfl) (b_ rfl (d_ (a_ (V_ rfl rfl rfl (am_ (by omega) (by omega))) rfl (a_ (g_ rfl) rfl (e_ (t_ rfl ?_)))))))))
    exact ah_ ⟨(i + 1, Hs1), hlx1, (by rw [es_ hx1, aU_]; exact hS1)⟩ (by dsimp only; omega) ⟨rfl, rfl, rfl, rfl, rfl, trivial⟩ (l_ (m_ (c_ i_)) q_) (fun _ _ h => h)
theorem pR_ (B : EngB) (E : Emt Tryz.prog 41) (A : EngA) (pm : List (Ky × Pc)) (x : Ix) (f : Fc) (nw fm : List Fc) (Hs : Hp) (hS : E.St nw fm Hs) (hpl : ∀ k, (lat pm k).length ≤ 1000000000) (hxl : ∀ k, (lat x.above k).length ≤ 1000000000 ∧ (lat x.under k).length ≤ 1000000000) (hyl : ∀ k, (lat x.frm k).length ≤ 1000000000 ∧ (lat x.into k).length ≤ 1000000000 ∧ (lat x.ranges k).length ≤ 1000000000 ∧ (lat x.firms k).length ≤ 1000000000) : Tri Tryz.prog 106 #[zp_ B.g 0, Fc.val f] Hs [gF B E, pF B pm A, aF B x A, uF B x A, oF B x A, iF B x A, rF B x A, sF B x A, E.ef] (fun _ : {H' : Hp // E.St (emits E.stp (ga_ pm f) nw) fm H'} => .tuple #[]) (fun y => y.1) (fun _ => []) := by
  refine R_ Tryz.func106 rfl rfl Tryz.ntmps106 rfl fun v0 => ?_
  refine f_ (d_ (aI_ rfl rfl fun b1 => ?_))
  refine e_ (b_ rfl (f_ ?_))
  refine aE_ (by kernel_rfl) ?_
  refine ab_ 0 [0, 1, 2, 3, 4, 5, 6, 7, 8, 9] (by kernel_rfl) (fun _ a b => ⟨a, b⟩) (j_ rfl (g_ rfl) rfl (j_ rfl (ag_ rfl) rfl (j_ rfl (k_ F_ rfl rfl rfl do_) rfl (j_ rfl (Z_ dZ_ rfl (fun v _ h => by exact h.1) rfl) rfl (j_ rfl (k_ s_ rfl rfl rfl p_) rfl (j_ rfl (o_ 0 v_ rfl rfl rfl) rfl (j_ rfl (ao_ en_ rfl rfl) rfl (j_ rfl (ck_ (k := (Ky.mk 5 (Fc.r f) [])) (adr := A.p) fV_ cb_ cM_ rfl rfl (fun v _ h => by exact h.2.1)) rfl (j_ rfl (at_ T_ rfl) rfl ?_)))))))))
  refine j_ rfl (g_ rfl) rfl (aa_ (Y_ (by kernel_rfl) (b_ rfl (S_ ?_))))
  refine aV_ (ι := {y : Nat × Hp // y.1 ≤ List.length (lat pm (Ky.mk 5 (Fc.r f) [])) ∧ E.St (emits E.stp (List.map (fun y => aN_ (Fc.a f) (Pc.t y) (Fc.b f)) (List.take y.1 (lat pm (Ky.mk 5 (Fc.r f) [])))) nw) fm y.2}) (fun y => [(0, zp_ B.g 0), (3, zp_ b1 0), (13, .slice (Prod.fst (A.p (Ky.mk 5 (Fc.r f) []))) (List.length (lat pm (Ky.mk 5 (Fc.r f) []))) (Prod.snd (A.p (Ky.mk 5 (Fc.r f) [])))), (14, .int .i64 (List.length (lat pm (Ky.mk 5 (Fc.r f) [])) : Int)), (15, .int .i64 (y.1.1 : Int))]) (fun y => ((b1, .cells (Fc.cells f).toArray 41 (0, 0)) :: y.1.2)) (fun y => [gF B E, pF B pm A, aF B x A, uF B x A, oF B x A, iF B x A, rF B x A, sF B x A, E.ef]) (fun y => List.length (lat pm (Ky.mk 5 (Fc.r f) [])) - y.1.1) ⟨((0 : Nat), Hs), by simp, by exact hS⟩ ⟨rfl, rfl, rfl, rfl, rfl, trivial⟩ (l_ i_ be_) (fun _ _ h => h) ?_
  rintro ⟨⟨i, Hs_i⟩, hi_i, hS_i⟩
  dsimp only at hi_i hS_i ⊢
  have hb_i := hpl (Ky.mk 5 (Fc.r f) [])
  refine f_ (d_ (z_ (aC_ rfl rfl) rfl fun r1 hr1 => ?_))
  refine e_ (b_ rfl (f_ ?_))
  cases r1
  · skip
    replace hr1 := of_decide_eq_false hr1
    refine r_ rfl (ay_ rfl (aQ_ rfl ?_))
    exact ch_ Tryz.results106 ⟨Hs_i, by unfold ga_; rw [List.take_of_length_le (by omega)] at hS_i; exact hS_i⟩ rfl ad_ (fun _ _ _ => trivial)
  · skip
    replace hr1 := of_decide_eq_true hr1
    have hlx1 : i < List.length (lat pm (Ky.mk 5 (Fc.r f) [])) := by omega
    obtain ⟨x1, hx1⟩ : ∃ e0, (lat pm (Ky.mk 5 (Fc.r f) []))[i]? = some e0 := ⟨_, List.getElem?_eq_getElem hlx1⟩
    have hmx1 : x1 ∈ (lat pm (Ky.mk 5 (Fc.r f) [])) := List.mem_of_getElem? hx1
    refine n_ rfl (B_ (b_ rfl (f_ (S_ (f_ (d_ (a_ (aj_ T_ W_ rfl rfl (fun v _ h => aO_ (n := 10) Pc.cells_len (by decide) (by exact (bJ_ h.2.1 (Ky.mk 5 (Fc.r f) []))) hx1) (by omega) (by first | omega | (simp; done))) rfl (a_ (aG_ (ad := (Prod.fst (A.p (Ky.mk 5 (Fc.r f) [])))) (us := Pc.cells x1) bs_ W_ rfl (fun v _ h => by exact (bJ_ h.2.1 (Ky.mk 5 (Fc.r f) []))) (Pc.cells_len _) (an_ Pc.cells_len hx1)) rfl (al_ as_ rfl fun b2 => ?_)))))))))
    refine ae_ 0 W_ rfl rfl rfl rfl rfl rfl (e_ (b_ rfl ?_))
    refine aD_ ((b2, .cells (Pc.cells x1).toArray 47 (0, 0)) :: ((b1, .cells (Fc.cells f).toArray 41 (0, 0)) :: [])) (by kernel_rfl) ?_
    refine ab_ 2 [0, 1, 2, 3, 4, 5, 6, 7, 8, 9] (by kernel_rfl) (fun _ a b => ⟨Vw.sat.sub (a.perm (l_ i_ i_)), b⟩) (j_ rfl (g_ rfl) rfl (j_ rfl (ag_ rfl) rfl (j_ rfl (k_ F_ rfl rfl rfl aR_) rfl (j_ rfl (Z_ bj_ rfl (fun v _ h => by exact h.1) rfl) rfl (j_ rfl (k_ s_ rfl rfl rfl p_) rfl (j_ rfl (o_ 1 v_ rfl rfl rfl) rfl (j_ rfl (k_ C_ rfl rfl rfl p_) rfl (j_ rfl (o_ 0 v_ rfl rfl rfl) rfl (j_ rfl (k_ s_ rfl rfl rfl p_) rfl ?_)))))))))
    refine j_ rfl (o_ 1 v_ rfl rfl rfl) rfl (aa_ (N_ 10 rfl (by kernel_rfl) (Q_ (iI_ (Fc.a f) (Pc.t x1) (Fc.b f)) rfl X_ (fun _ _ _ => by exact trivial) rfl fun _ => ?_)))
    refine e_ (t_ rfl (E_ (fun _ a b => ⟨Vw.sat.sub (a.perm (l_ i_ i_)), b⟩) (N_ 11 rfl (by kernel_rfl) (aF_ (first := []) (cap := E.caps) (E.emit (aN_ (Fc.a f) (Pc.t x1) (Fc.b f)) (emits E.stp (List.map (fun y => aN_ (Fc.a f) (Pc.t y) (Fc.b f)) (List.take i (lat pm (Ky.mk 5 (Fc.r f) [])))) nw) fm Hs_i hS_i) rfl rfl (c_ ad_) (fun v _ h => by exact ⟨h.2.2.2.2.2.2.2.2.1, trivial⟩) rfl fun ⟨Hs1, hS1⟩ => ?_))))
    dsimp only
    refine e_ (t_ rfl (E_ (fun _ a b => ⟨Vw.sat.sub (a.perm (l_ (m_ i_) ba_)), b⟩) (Y_ (by kernel_rfl) (b_ rfl (d_ (a_ (V_ rfl rfl rfl (am_ (by omega) (by omega))) rfl (a_ (g_ rfl) rfl (e_ (t_ rfl ?_)))))))))
    exact ah_ ⟨(i + 1, Hs1), hlx1, (by rw [es_ hx1, aU_]; exact hS1)⟩ (by dsimp only; omega) ⟨rfl, rfl, rfl, rfl, rfl, trivial⟩ (l_ (m_ (c_ i_)) q_) (fun _ _ h => h)
theorem gb_ {α β : Type} {g : α → List β} {l : List α} {i : Nat} {x : α} (h : l[i]? = some x) : List.flatMap g (List.take (i + 1) l) = List.flatMap g (List.take i l) ++ g x := by
  rw [List.take_add_one, h, Option.toList_some, List.flatMap_append]; simp
theorem iS_ {stp : Fc → List Fc → List Fc} {kof : List Fc → List Fc} {f : Fc} {l : List Pc} {i : Nat} {x : Pc} {s : List Fc} (h : l[i]? = some x) : ea_ stp kof f (List.take (i + 1) l) s = if ax_ f.a x.a ∈ kof (ea_ stp kof f (List.take i l) s) ∧ ax_ f.a x.b ∈ kof (ea_ stp kof f (List.take i l) s) then stp (ax_ f.a x.c) (ea_ stp kof f (List.take i l) s) else ea_ stp kof f (List.take i l) s := by
  unfold ea_
  rw [List.take_add_one, h, Option.toList_some, List.foldl_append]; rfl
theorem jz_ {stp : Fc → List Fc → List Fc} {kof : List Fc → List Fc} {f : Fc} {l : List Pc} {i : Nat} {x : Pc} {s : List Fc × List Fc} (h : l[i]? = some x) : cq_ stp kof f (List.take (i + 1) l) s = (stp (aJ_ f.a x.r x.lo x.hi) (cq_ stp kof f (List.take i l) s).1, if aJ_ f.a x.r x.lo x.hi ∈ kof (cq_ stp kof f (List.take i l) s).1 then (cq_ stp kof f (List.take i l) s).2 else aJ_ f.a x.r x.lo x.hi :: (cq_ stp kof f (List.take i l) s).2) := by
  unfold cq_
  rw [List.take_add_one, h, Option.toList_some, List.foldl_append]; rfl
theorem both_c (B : EngB) (E : Emt Tryz.prog 41) (A : EngA) (pm : List (Ky × Pc)) (x : Ix) (f : Fc) (nw fm : List Fc) (Hs : Hp) (hS : E.St nw fm Hs) (hpl : ∀ k, (lat pm k).length ≤ 1000000000) (hxl : ∀ k, (lat x.above k).length ≤ 1000000000 ∧ (lat x.under k).length ≤ 1000000000) (hyl : ∀ k, (lat x.frm k).length ≤ 1000000000 ∧ (lat x.into k).length ≤ 1000000000 ∧ (lat x.ranges k).length ≤ 1000000000 ∧ (lat x.firms k).length ≤ 1000000000) : Tri Tryz.prog 101 #[zp_ B.g 0, Fc.val f] Hs [gF B E, pF B pm A, aF B x A, uF B x A, oF B x A, iF B x A, rF B x A, sF B x A, E.ef] (fun _ : {H' : Hp // E.St (ea_ E.stp E.kof f (lat pm (Ky.mk 2 [] (Fc.b f))) nw) fm H'} => .tuple #[]) (fun y => y.1) (fun _ => []) := by
 refine R_ Tryz.func101 rfl rfl Tryz.ntmps101 rfl fun v0 => ?_
 refine f_ (d_ (aI_ rfl rfl fun b1 => ?_))
 refine e_ (b_ rfl (f_ ?_))
 refine aE_ (by kernel_rfl) ?_
 refine ab_ 0 [0, 1, 2, 3, 4, 5, 6, 7, 8, 9] (by kernel_rfl) (fun _ a b => ⟨a, b⟩) (j_ rfl (g_ rfl) rfl (j_ rfl (ag_ rfl) rfl (j_ rfl (k_ F_ rfl rfl rfl do_) rfl (j_ rfl (Z_ dZ_ rfl (fun v _ h => by exact h.1) rfl) rfl (j_ rfl (k_ s_ rfl rfl rfl p_) rfl (j_ rfl (o_ 0 v_ rfl rfl rfl) rfl (j_ rfl (ao_ en_ rfl rfl) rfl (j_ rfl (ck_ (k := (Ky.mk 2 [] (Fc.b f))) (adr := A.p) fV_ cb_ cM_ rfl rfl (fun v _ h => by exact h.2.1)) rfl (j_ rfl (at_ T_ rfl) rfl ?_)))))))))
 refine j_ rfl (g_ rfl) rfl (aa_ (Y_ (by kernel_rfl) (b_ rfl (S_ ?_))))
 refine aV_ (ι := {y : Nat × Hp // y.1 ≤ List.length (lat pm (Ky.mk 2 [] (Fc.b f))) ∧ E.St (ea_ E.stp E.kof f (List.take y.1 (lat pm (Ky.mk 2 [] (Fc.b f)))) nw) fm y.2}) (fun y => [(0, zp_ B.g 0), (3, zp_ b1 0), (13, .slice (Prod.fst (A.p (Ky.mk 2 [] (Fc.b f)))) (List.length (lat pm (Ky.mk 2 [] (Fc.b f)))) (Prod.snd (A.p (Ky.mk 2 [] (Fc.b f))))), (14, .int .i64 (List.length (lat pm (Ky.mk 2 [] (Fc.b f))) : Int)), (15, .int .i64 (y.1.1 : Int))]) (fun y => ((b1, .cells (Fc.cells f).toArray 41 (0, 0)) :: y.1.2)) (fun y => [gF B E, pF B pm A, aF B x A, uF B x A, oF B x A, iF B x A, rF B x A, sF B x A, E.ef]) (fun y => List.length (lat pm (Ky.mk 2 [] (Fc.b f))) - y.1.1) ⟨((0 : Nat), Hs), by simp, by exact hS⟩ ⟨rfl, rfl, rfl, rfl, rfl, trivial⟩ (l_ i_ be_) (fun _ _ h => h) ?_
 rintro ⟨⟨i, Hs_i⟩, hi_i, hS_i⟩
 dsimp only at hi_i hS_i ⊢
 have hb_i := hpl (Ky.mk 2 [] (Fc.b f))
 refine f_ (d_ (z_ (aC_ rfl rfl) rfl fun r1 hr1 => ?_))
 refine e_ (b_ rfl (f_ ?_))
 cases r1
 ·
  replace hr1 := of_decide_eq_false hr1
  refine r_ rfl (ay_ rfl (aQ_ rfl ?_))
  exact ch_ Tryz.results101 ⟨Hs_i, by rw [List.take_of_length_le (by omega)] at hS_i; exact hS_i⟩ rfl ad_ (fun _ _ _ => trivial)
 ·
  replace hr1 := of_decide_eq_true hr1
  have hlx1 : i < List.length (lat pm (Ky.mk 2 [] (Fc.b f))) := by omega
  obtain ⟨x1, hx1⟩ : ∃ e0, (lat pm (Ky.mk 2 [] (Fc.b f)))[i]? = some e0 := ⟨_, List.getElem?_eq_getElem hlx1⟩
  have hmx1 : x1 ∈ (lat pm (Ky.mk 2 [] (Fc.b f))) := List.mem_of_getElem? hx1
  refine n_ rfl (B_ (b_ rfl (f_ (S_ (f_ (d_ (a_ (aj_ T_ W_ rfl rfl (fun v _ h => aO_ (n := 10) Pc.cells_len (by decide) (by exact (bJ_ h.2.1 (Ky.mk 2 [] (Fc.b f)))) hx1) (by omega) (by first | omega | (simp; done))) rfl (a_ (aG_ (ad := (Prod.fst (A.p (Ky.mk 2 [] (Fc.b f))))) (us := Pc.cells x1) bs_ W_ rfl (fun v _ h => by exact (bJ_ h.2.1 (Ky.mk 2 [] (Fc.b f)))) (Pc.cells_len _) (an_ Pc.cells_len hx1)) rfl (al_ as_ rfl fun b2 => ?_)))))))))
  refine ae_ 0 W_ rfl rfl rfl rfl rfl rfl (e_ (b_ rfl (f_ ?_)))
  refine aE_ (by kernel_rfl) ?_
  refine ab_ 14 [0, 1, 2, 3, 4, 5, 6, 7] (by kernel_rfl) (fun _ a b => ⟨a, b⟩) (j_ rfl (g_ rfl) rfl (j_ rfl (ag_ rfl) rfl (j_ rfl (k_ F_ rfl rfl rfl bv_) rfl (j_ rfl (Z_ bD_ rfl (fun v _ h => by exact h.1) rfl) rfl (j_ rfl (k_ s_ rfl rfl rfl p_) rfl (j_ rfl (o_ 1 v_ rfl rfl rfl) rfl (j_ rfl (k_ C_ rfl rfl rfl p_) rfl (j_ rfl (o_ 0 v_ rfl rfl rfl) rfl (aa_ ?_)))))))))
  refine N_ 8 rfl (by kernel_rfl) (Q_ (eX_ (Fc.a f) (Pc.a x1)) rfl X_ (fun _ _ _ => by exact trivial) rfl fun _ => ?_)
  refine e_ (t_ rfl (E_ (fun _ a b => ⟨a, b⟩) (ab_ 11 [9, 10] (by kernel_rfl) (fun _ a b => ⟨a, b⟩) ?_)))
  refine cK_ rfl (hj_ (f := (ax_ (Fc.a f) (Pc.a x1))) hS_i fW_ aS_ bV_ rfl rfl (c_ ad_)) rfl fun r2 hr2 => ?_
  refine j_ rfl (g_ rfl) rfl (aa_ ?_)
  cases r2
  ·
   replace hr2 := of_decide_eq_false hr2
   refine ab_ 0 [11, 12, 13, 14, 15, 16, 17, 18, 19, 20, 21] (by kernel_rfl) (fun _ a b => ⟨a, b⟩) (aL_ rfl rfl rfl rfl rfl (aL_ rfl rfl rfl rfl rfl (aL_ rfl rfl rfl rfl rfl (aL_ rfl rfl rfl rfl rfl (aL_ rfl rfl rfl rfl rfl (aL_ rfl rfl rfl rfl rfl (aL_ rfl rfl rfl rfl rfl (aL_ rfl rfl rfl rfl rfl (aL_ rfl rfl rfl rfl rfl ?_)))))))))
   refine aL_ rfl rfl rfl rfl rfl (j_ rfl (H_ rfl rfl) rfl (aa_ (Y_ (by kernel_rfl) (b_ rfl (r_ rfl (B_ (b_ rfl (d_ (a_ (V_ rfl rfl rfl (am_ (by omega) (by omega))) rfl ?_)))))))))
   refine a_ (g_ rfl) rfl (e_ (t_ rfl ?_))
   exact ah_ ⟨(i + 1, Hs_i), hlx1, (by rw [iS_ hx1]; first | (rw [if_pos ⟨by assumption, by assumption⟩]; exact hS_i) | (rw [if_neg (fun q => absurd q.1 (by assumption))]; exact hS_i) | (rw [if_neg (fun q => absurd q.2 (by assumption))]; exact hS_i))⟩ (by dsimp only; omega) ⟨rfl, rfl, rfl, rfl, rfl, trivial⟩ (l_ (c_ i_) ad_) (fun _ _ h => h)
  ·
   replace hr2 := of_decide_eq_true hr2
   refine ab_ 3 [11, 12, 13, 14, 15, 16, 17, 18] (by kernel_rfl) (fun _ a b => ⟨a, b⟩) (aB_ rfl rfl rfl (g_ rfl) rfl (aB_ rfl rfl rfl (ag_ rfl) rfl (aB_ rfl rfl rfl (k_ F_ rfl rfl rfl bv_) rfl (aB_ rfl rfl rfl (Z_ bD_ rfl (fun v _ h => by exact h.1) rfl) rfl (aB_ rfl rfl rfl (k_ s_ rfl rfl rfl p_) rfl (aB_ rfl rfl rfl (o_ 1 v_ rfl rfl rfl) rfl (aB_ rfl rfl rfl (k_ C_ rfl rfl rfl p_) rfl (aB_ rfl rfl rfl (o_ 0 v_ rfl rfl rfl) rfl (aa_ ?_)))))))))
   refine N_ 19 rfl (by kernel_rfl) (u_ rfl rfl (Q_ (eX_ (Fc.a f) (Pc.b x1)) rfl X_ (fun _ _ _ => by exact trivial) rfl fun _ => ?_))
   refine e_ (t_ rfl (E_ (fun _ a b => ⟨a, b⟩) (ab_ 0 [20, 21] (by kernel_rfl) (fun _ a b => ⟨a, b⟩) ?_)))
   refine dc_ rfl rfl rfl (hj_ (f := (ax_ (Fc.a f) (Pc.b x1))) hS_i fW_ aS_ bV_ rfl rfl (c_ ad_)) rfl fun r3 hr3 => ?_
   refine j_ rfl (P_ rfl rfl) rfl (aa_ (Y_ (by kernel_rfl) (b_ rfl ?_)))
   cases r3
   ·
    replace hr3 := of_decide_eq_false hr3
    refine r_ rfl (B_ (b_ rfl (d_ (a_ (V_ rfl rfl rfl (am_ (by omega) (by omega))) rfl (a_ (g_ rfl) rfl (e_ (t_ rfl ?_)))))))
    exact ah_ ⟨(i + 1, Hs_i), hlx1, (by rw [iS_ hx1]; first | (rw [if_pos ⟨by assumption, by assumption⟩]; exact hS_i) | (rw [if_neg (fun q => absurd q.1 (by assumption))]; exact hS_i) | (rw [if_neg (fun q => absurd q.2 (by assumption))]; exact hS_i))⟩ (by dsimp only; omega) ⟨rfl, rfl, rfl, rfl, rfl, trivial⟩ (l_ (c_ i_) ad_) (fun _ _ h => h)
   ·
    replace hr3 := of_decide_eq_true hr3
    refine n_ rfl ?_
    refine aD_ ((b2, .cells (Pc.cells x1).toArray 47 (0, 0)) :: ((b1, .cells (Fc.cells f).toArray 41 (0, 0)) :: [])) (by kernel_rfl) ?_
    refine ab_ 2 [0, 1, 2, 3, 4, 5, 6, 7] (by kernel_rfl) (fun _ a b => ⟨Vw.sat.sub (a.perm (l_ i_ i_)), b⟩) (j_ rfl (g_ rfl) rfl (j_ rfl (ag_ rfl) rfl (j_ rfl (k_ F_ rfl rfl rfl aR_) rfl (j_ rfl (Z_ bj_ rfl (fun v _ h => by exact h.1) rfl) rfl (j_ rfl (k_ s_ rfl rfl rfl p_) rfl (j_ rfl (o_ 1 v_ rfl rfl rfl) rfl (j_ rfl (k_ C_ rfl rfl rfl p_) rfl (j_ rfl (o_ 0 v_ rfl rfl rfl) rfl (aa_ ?_)))))))))
    refine N_ 8 rfl (by kernel_rfl) (Q_ (eX_ (Fc.a f) (Pc.c x1)) rfl X_ (fun _ _ _ => by exact trivial) rfl fun _ => ?_)
    refine e_ (t_ rfl (E_ (fun _ a b => ⟨Vw.sat.sub (a.perm (l_ i_ i_)), b⟩) (N_ 9 rfl (by kernel_rfl) (aF_ (first := []) (cap := E.caps) (E.emit (ax_ (Fc.a f) (Pc.c x1)) (ea_ E.stp E.kof f (List.take i (lat pm (Ky.mk 2 [] (Fc.b f)))) nw) fm Hs_i hS_i) rfl rfl (c_ ad_) (fun v _ h => by exact ⟨h.2.2.2.2.2.2.2.2.1, trivial⟩) rfl fun ⟨Hs1, hS1⟩ => ?_))))
    dsimp only
    refine e_ (t_ rfl (E_ (fun _ a b => ⟨Vw.sat.sub (a.perm (l_ (m_ i_) ba_)), b⟩) (Y_ (by kernel_rfl) (b_ rfl (d_ (a_ (V_ rfl rfl rfl (am_ (by omega) (by omega))) rfl (a_ (g_ rfl) rfl (e_ (t_ rfl ?_)))))))))
    exact ah_ ⟨(i + 1, Hs1), hlx1, (by rw [iS_ hx1]; first | (rw [if_pos ⟨by assumption, by assumption⟩]; exact hS1) | (rw [if_neg (fun q => absurd q.1 (by assumption))]; exact hS1) | (rw [if_neg (fun q => absurd q.2 (by assumption))]; exact hS1))⟩ (by dsimp only; omega) ⟨rfl, rfl, rfl, rfl, rfl, trivial⟩ (l_ (m_ (c_ i_)) q_) (fun _ _ h => h)
theorem rA_ (B : EngB) (E : Emt Tryz.prog 41) (A : EngA) (pm : List (Ky × Pc)) (x : Ix) (f : Fc) (nw fm : List Fc) (Hs : Hp) (hS : E.St nw fm Hs) (hpl : ∀ k, (lat pm k).length ≤ 1000000000) (hxl : ∀ k, (lat x.above k).length ≤ 1000000000 ∧ (lat x.under k).length ≤ 1000000000) (hyl : ∀ k, (lat x.frm k).length ≤ 1000000000 ∧ (lat x.into k).length ≤ 1000000000 ∧ (lat x.ranges k).length ≤ 1000000000 ∧ (lat x.firms k).length ≤ 1000000000) : Tri Tryz.prog 105 #[zp_ B.g 0, Fc.val f] Hs [gF B E, pF B pm A, aF B x A, uF B x A, oF B x A, iF B x A, rF B x A, sF B x A, E.ef] (fun _ : {H' : Hp // E.St (Prod.fst (cq_ E.stp E.kof f (lat pm (Ky.mk 8 [] (Fc.b f))) (nw, fm))) (Prod.snd (cq_ E.stp E.kof f (lat pm (Ky.mk 8 [] (Fc.b f))) (nw, fm))) H'} => .tuple #[]) (fun y => y.1) (fun _ => []) := by
 refine R_ Tryz.func105 rfl rfl Tryz.ntmps105 rfl fun v0 => ?_
 refine f_ (d_ (aI_ rfl rfl fun b1 => ?_))
 refine e_ (b_ rfl (f_ ?_))
 refine aE_ (by kernel_rfl) ?_
 refine ab_ 0 [0, 1, 2, 3, 4, 5, 6, 7, 8, 9] (by kernel_rfl) (fun _ a b => ⟨a, b⟩) (j_ rfl (g_ rfl) rfl (j_ rfl (ag_ rfl) rfl (j_ rfl (k_ F_ rfl rfl rfl do_) rfl (j_ rfl (Z_ dZ_ rfl (fun v _ h => by exact h.1) rfl) rfl (j_ rfl (k_ s_ rfl rfl rfl p_) rfl (j_ rfl (o_ 0 v_ rfl rfl rfl) rfl (j_ rfl (ao_ en_ rfl rfl) rfl (j_ rfl (ck_ (k := (Ky.mk 8 [] (Fc.b f))) (adr := A.p) fV_ cb_ cM_ rfl rfl (fun v _ h => by exact h.2.1)) rfl (j_ rfl (at_ T_ rfl) rfl ?_)))))))))
 refine j_ rfl (g_ rfl) rfl (aa_ (Y_ (by kernel_rfl) (b_ rfl (S_ ?_))))
 refine aV_ (ι := {y : Nat × Hp // y.1 ≤ List.length (lat pm (Ky.mk 8 [] (Fc.b f))) ∧ E.St (Prod.fst (cq_ E.stp E.kof f (List.take y.1 (lat pm (Ky.mk 8 [] (Fc.b f)))) (nw, fm))) (Prod.snd (cq_ E.stp E.kof f (List.take y.1 (lat pm (Ky.mk 8 [] (Fc.b f)))) (nw, fm))) y.2}) (fun y => [(0, zp_ B.g 0), (3, zp_ b1 0), (14, .slice (Prod.fst (A.p (Ky.mk 8 [] (Fc.b f)))) (List.length (lat pm (Ky.mk 8 [] (Fc.b f)))) (Prod.snd (A.p (Ky.mk 8 [] (Fc.b f))))), (15, .int .i64 (List.length (lat pm (Ky.mk 8 [] (Fc.b f))) : Int)), (16, .int .i64 (y.1.1 : Int))]) (fun y => ((b1, .cells (Fc.cells f).toArray 41 (0, 0)) :: y.1.2)) (fun y => [gF B E, pF B pm A, aF B x A, uF B x A, oF B x A, iF B x A, rF B x A, sF B x A, E.ef]) (fun y => List.length (lat pm (Ky.mk 8 [] (Fc.b f))) - y.1.1) ⟨((0 : Nat), Hs), by simp, by exact hS⟩ ⟨rfl, rfl, rfl, rfl, rfl, trivial⟩ (l_ i_ be_) (fun _ _ h => h) ?_
 rintro ⟨⟨i, Hs_i⟩, hi_i, hS_i⟩
 dsimp only at hi_i hS_i ⊢
 have hb_i := hpl (Ky.mk 8 [] (Fc.b f))
 refine f_ (d_ (z_ (aC_ rfl rfl) rfl fun r1 hr1 => ?_))
 refine e_ (b_ rfl (f_ ?_))
 cases r1
 ·
  replace hr1 := of_decide_eq_false hr1
  refine r_ rfl (ay_ rfl (aQ_ rfl ?_))
  exact ch_ Tryz.results105 ⟨Hs_i, by rw [List.take_of_length_le (by omega)] at hS_i; exact hS_i⟩ rfl ad_ (fun _ _ _ => trivial)
 ·
  replace hr1 := of_decide_eq_true hr1
  have hlx1 : i < List.length (lat pm (Ky.mk 8 [] (Fc.b f))) := by omega
  obtain ⟨x1, hx1⟩ : ∃ e0, (lat pm (Ky.mk 8 [] (Fc.b f)))[i]? = some e0 := ⟨_, List.getElem?_eq_getElem hlx1⟩
  have hmx1 : x1 ∈ (lat pm (Ky.mk 8 [] (Fc.b f))) := List.mem_of_getElem? hx1
  refine n_ rfl (B_ (b_ rfl (f_ (S_ (f_ (d_ (a_ (aj_ T_ W_ rfl rfl (fun v _ h => aO_ (n := 10) Pc.cells_len (by decide) (by exact (bJ_ h.2.1 (Ky.mk 8 [] (Fc.b f)))) hx1) (by omega) (by first | omega | (simp; done))) rfl (a_ (aG_ (ad := (Prod.fst (A.p (Ky.mk 8 [] (Fc.b f))))) (us := Pc.cells x1) bs_ W_ rfl (fun v _ h => by exact (bJ_ h.2.1 (Ky.mk 8 [] (Fc.b f)))) (Pc.cells_len _) (an_ Pc.cells_len hx1)) rfl (al_ as_ rfl fun b2 => ?_)))))))))
  refine ae_ 0 W_ rfl rfl rfl rfl rfl rfl (e_ (b_ rfl (f_ (d_ (a_ (k_ s_ rfl rfl rfl p_) rfl (a_ (o_ 1 v_ rfl rfl rfl) rfl (a_ (k_ C_ rfl rfl rfl p_) rfl (a_ (o_ 0 v_ rfl rfl rfl) rfl (a_ (k_ C_ rfl rfl rfl I_) rfl ?_)))))))))
  refine a_ (o_ 0 J_ rfl rfl rfl) rfl (a_ (k_ C_ rfl rfl rfl I_) rfl (a_ (o_ 0 J_ rfl rfl rfl) rfl (Q_ (iz_ (Fc.a f) (Pc.r x1) (Pc.lo x1) (Pc.hi x1)) rfl X_ (fun _ _ _ => by exact trivial) rfl fun _ => ?_)))
  refine al_ aT_ rfl fun b3 => ?_
  refine ae_ 0 M_ rfl rfl rfl rfl rfl rfl (e_ (b_ rfl (f_ (f_ ?_))))
  refine aE_ (by kernel_rfl) ?_
  refine ab_ 0 [0, 1, 2, 3, 4, 5, 6] (by kernel_rfl) (fun _ a b => ⟨a, b⟩) (j_ rfl (g_ rfl) rfl (j_ rfl (ag_ rfl) rfl (j_ rfl (k_ F_ rfl rfl rfl bv_) rfl (j_ rfl (Z_ bD_ rfl (fun v _ h => by exact h.1) rfl) rfl (j_ rfl (K_ 0 af_ M_ rfl rfl rfl) rfl ?_)))))
  refine cK_ rfl (hj_ (f := (aJ_ (Fc.a f) (Pc.r x1) (Pc.lo x1) (Pc.hi x1))) hS_i fW_ aS_ bV_ rfl rfl (c_ (c_ ad_))) rfl fun r2 hr2 => ?_
  refine j_ rfl (bg_ rfl) rfl (aa_ (Y_ (by kernel_rfl) (b_ rfl ?_)))
  cases r2
  ·
   replace hr2 := of_decide_eq_false hr2
   refine n_ rfl ?_
   refine aD_ ((b3, .cells #[.int .i64 (Fc.kind (aJ_ (Fc.a f) (Pc.r x1) (Pc.lo x1) (Pc.hi x1))), str (Fc.a (aJ_ (Fc.a f) (Pc.r x1) (Pc.lo x1) (Pc.hi x1))), str (Fc.b (aJ_ (Fc.a f) (Pc.r x1) (Pc.lo x1) (Pc.hi x1))), str (Fc.r (aJ_ (Fc.a f) (Pc.r x1) (Pc.lo x1) (Pc.hi x1))), .int .i64 (Fc.lo (aJ_ (Fc.a f) (Pc.r x1) (Pc.lo x1) (Pc.hi x1))), .int .i64 (Fc.hi (aJ_ (Fc.a f) (Pc.r x1) (Pc.lo x1) (Pc.hi x1)))] 41 (0, 0)) :: ((b2, .cells (Pc.cells x1).toArray 47 (0, 0)) :: ((b1, .cells (Fc.cells f).toArray 41 (0, 0)) :: []))) (by kernel_rfl) ?_
   refine ab_ 1 [0, 1, 2, 3, 4] (by kernel_rfl) (fun _ a b => ⟨Vw.sat.sub (a.perm (l_ i_ (l_ i_ i_))), b⟩) (j_ rfl (g_ rfl) rfl (j_ rfl (ag_ rfl) rfl (j_ rfl (k_ F_ rfl rfl rfl bv_) rfl (j_ rfl (Z_ bD_ rfl (fun v _ h => by exact h.1) rfl) rfl (j_ rfl (K_ 0 af_ M_ rfl rfl rfl) rfl (aa_ (N_ 5 rfl (by kernel_rfl) (qL_ (f := (aJ_ (Fc.a f) (Pc.r x1) (Pc.lo x1) (Pc.hi x1))) hS_i fW_ (.inr rfl) aS_ rfl rfl rfl (c_ (c_ ad_)) fun Hs1 hS1 => ?_))))))))
   refine e_ (t_ rfl (E_ (fun _ a b => ⟨Vw.sat.sub (a.perm (l_ (m_ i_) (l_ (m_ i_) ba_))), b⟩) (Y_ (by kernel_rfl) (b_ rfl ?_))))
   refine aD_ ((b3, .cells #[.int .i64 (Fc.kind (aJ_ (Fc.a f) (Pc.r x1) (Pc.lo x1) (Pc.hi x1))), str (Fc.a (aJ_ (Fc.a f) (Pc.r x1) (Pc.lo x1) (Pc.hi x1))), str (Fc.b (aJ_ (Fc.a f) (Pc.r x1) (Pc.lo x1) (Pc.hi x1))), str (Fc.r (aJ_ (Fc.a f) (Pc.r x1) (Pc.lo x1) (Pc.hi x1))), .int .i64 (Fc.lo (aJ_ (Fc.a f) (Pc.r x1) (Pc.lo x1) (Pc.hi x1))), .int .i64 (Fc.hi (aJ_ (Fc.a f) (Pc.r x1) (Pc.lo x1) (Pc.hi x1)))] 41 (0, 0)) :: ((b2, .cells (Pc.cells x1).toArray 47 (0, 0)) :: ((b1, .cells (Fc.cells f).toArray 41 (0, 0)) :: []))) (by kernel_rfl) ?_
   refine ab_ 1 [0, 1, 2, 3, 4] (by kernel_rfl) (fun _ a b => ⟨Vw.sat.sub (a.perm (l_ (m_ i_) (l_ (m_ i_) ba_))), b⟩) (j_ rfl (g_ rfl) rfl (j_ rfl (ag_ rfl) rfl (j_ rfl (k_ F_ rfl rfl rfl aR_) rfl (j_ rfl (Z_ bj_ rfl (fun v _ h => by exact h.1) rfl) rfl (j_ rfl (K_ 0 af_ M_ rfl rfl rfl) rfl (aa_ (N_ 5 rfl (by kernel_rfl) (aF_ (first := []) (cap := E.caps) (E.emit (aJ_ (Fc.a f) (Pc.r x1) (Pc.lo x1) (Pc.hi x1)) (Prod.fst (cq_ E.stp E.kof f (List.take i (lat pm (Ky.mk 8 [] (Fc.b f)))) (nw, fm))) ((aJ_ (Fc.a f) (Pc.r x1) (Pc.lo x1) (Pc.hi x1)) :: (Prod.snd (cq_ E.stp E.kof f (List.take i (lat pm (Ky.mk 8 [] (Fc.b f)))) (nw, fm)))) Hs1 hS1) rfl rfl q_ (fun v _ h => by exact ⟨h.2.2.2.2.2.2.2.2.1, trivial⟩) rfl fun ⟨Hs2, hS2⟩ => ?_))))))))
   dsimp only
   refine e_ (t_ rfl (E_ (fun _ a b => ⟨Vw.sat.sub (a.perm (l_ (m_ i_) (l_ (m_ i_) ba_))), b⟩) (Y_ (by kernel_rfl) (b_ rfl (d_ (a_ (V_ rfl rfl rfl (am_ (by omega) (by omega))) rfl (a_ (g_ rfl) rfl (e_ (t_ rfl ?_)))))))))
   exact ah_ ⟨(i + 1, Hs2), hlx1, (by rw [jz_ hx1]; dsimp only; first | (rw [if_pos (by assumption)]; exact hS2) | (rw [if_neg (by assumption)]; exact hS2))⟩ (by dsimp only; omega) ⟨rfl, rfl, rfl, rfl, rfl, trivial⟩ (l_ (m_ (c_ (c_ i_))) q_) (fun _ _ h => h)
  ·
   replace hr2 := of_decide_eq_true hr2
   refine r_ rfl (B_ (b_ rfl ?_))
   refine aD_ ((b3, .cells #[.int .i64 (Fc.kind (aJ_ (Fc.a f) (Pc.r x1) (Pc.lo x1) (Pc.hi x1))), str (Fc.a (aJ_ (Fc.a f) (Pc.r x1) (Pc.lo x1) (Pc.hi x1))), str (Fc.b (aJ_ (Fc.a f) (Pc.r x1) (Pc.lo x1) (Pc.hi x1))), str (Fc.r (aJ_ (Fc.a f) (Pc.r x1) (Pc.lo x1) (Pc.hi x1))), .int .i64 (Fc.lo (aJ_ (Fc.a f) (Pc.r x1) (Pc.lo x1) (Pc.hi x1))), .int .i64 (Fc.hi (aJ_ (Fc.a f) (Pc.r x1) (Pc.lo x1) (Pc.hi x1)))] 41 (0, 0)) :: ((b2, .cells (Pc.cells x1).toArray 47 (0, 0)) :: ((b1, .cells (Fc.cells f).toArray 41 (0, 0)) :: []))) (by kernel_rfl) ?_
   refine ab_ 1 [0, 1, 2, 3, 4] (by kernel_rfl) (fun _ a b => ⟨Vw.sat.sub (a.perm (l_ i_ (l_ i_ i_))), b⟩) (j_ rfl (g_ rfl) rfl (j_ rfl (ag_ rfl) rfl (j_ rfl (k_ F_ rfl rfl rfl aR_) rfl (j_ rfl (Z_ bj_ rfl (fun v _ h => by exact h.1) rfl) rfl (j_ rfl (K_ 0 af_ M_ rfl rfl rfl) rfl (aa_ (N_ 5 rfl (by kernel_rfl) (aF_ (first := []) (cap := E.caps) (E.emit (aJ_ (Fc.a f) (Pc.r x1) (Pc.lo x1) (Pc.hi x1)) (Prod.fst (cq_ E.stp E.kof f (List.take i (lat pm (Ky.mk 8 [] (Fc.b f)))) (nw, fm))) (Prod.snd (cq_ E.stp E.kof f (List.take i (lat pm (Ky.mk 8 [] (Fc.b f)))) (nw, fm))) Hs_i hS_i) rfl rfl (c_ (c_ ad_)) (fun v _ h => by exact ⟨h.2.2.2.2.2.2.2.2.1, trivial⟩) rfl fun ⟨Hs3, hS3⟩ => ?_))))))))
   dsimp only
   refine e_ (t_ rfl (E_ (fun _ a b => ⟨Vw.sat.sub (a.perm (l_ (m_ i_) (l_ (m_ i_) ba_))), b⟩) (Y_ (by kernel_rfl) (b_ rfl (d_ (a_ (V_ rfl rfl rfl (am_ (by omega) (by omega))) rfl (a_ (g_ rfl) rfl (e_ (t_ rfl ?_)))))))))
   exact ah_ ⟨(i + 1, Hs3), hlx1, (by rw [jz_ hx1]; dsimp only; first | (rw [if_pos (by assumption)]; exact hS3) | (rw [if_neg (by assumption)]; exact hS3))⟩ (by dsimp only; omega) ⟨rfl, rfl, rfl, rfl, rfl, trivial⟩ (l_ (m_ (c_ (c_ i_))) q_) (fun _ _ h => h)
theorem nT_ (B : EngB) (E : Emt Tryz.prog 41) (A : EngA) (pm : List (Ky × Pc)) (x : Ix) (f : Fc) (nw fm : List Fc) (Hs : Hp) (hS : E.St nw fm Hs) (hpl : ∀ k, (lat pm k).length ≤ 1000000000) (hxl : ∀ k, (lat x.above k).length ≤ 1000000000 ∧ (lat x.under k).length ≤ 1000000000) (hyl : ∀ k, (lat x.frm k).length ≤ 1000000000 ∧ (lat x.into k).length ≤ 1000000000 ∧ (lat x.ranges k).length ≤ 1000000000 ∧ (lat x.firms k).length ≤ 1000000000) : Tri Tryz.prog 103 #[zp_ B.g 0, Fc.val f] Hs [gF B E, pF B pm A, aF B x A, uF B x A, oF B x A, iF B x A, rF B x A, sF B x A, E.ef] (fun _ : {H' : Hp // E.St (emits E.stp (fj_ pm x f) nw) fm H'} => .tuple #[]) (fun y => y.1) (fun _ => []) := by
 refine R_ Tryz.func103 rfl rfl Tryz.ntmps103 rfl fun v0 => ?_
 refine f_ (d_ (aI_ rfl rfl fun b1 => ?_))
 refine e_ (b_ rfl (f_ ?_))
 refine aE_ (by kernel_rfl) ?_
 refine ab_ 0 [0, 1, 2, 3, 4, 5, 6, 7, 8, 9] (by kernel_rfl) (fun _ a b => ⟨a, b⟩) (j_ rfl (g_ rfl) rfl (j_ rfl (ag_ rfl) rfl (j_ rfl (k_ F_ rfl rfl rfl do_) rfl (j_ rfl (Z_ dZ_ rfl (fun v _ h => by exact h.1) rfl) rfl (j_ rfl (k_ s_ rfl rfl rfl p_) rfl (j_ rfl (o_ 0 v_ rfl rfl rfl) rfl (j_ rfl (ao_ en_ rfl rfl) rfl (j_ rfl (ck_ (k := (Ky.mk 4 [] (Fc.b f))) (adr := A.p) fV_ cb_ cM_ rfl rfl (fun v _ h => by exact h.2.1)) rfl (j_ rfl (at_ T_ rfl) rfl ?_)))))))))
 refine j_ rfl (g_ rfl) rfl (aa_ (Y_ (by kernel_rfl) (b_ rfl (S_ ?_))))
 refine aV_ (ι := {y : Nat × Hp // y.1 ≤ List.length (lat pm (Ky.mk 4 [] (Fc.b f))) ∧ E.St (emits E.stp (List.flatMap (fun y => List.map (fun a => ax_ a (Pc.c y)) (lat x.into (Fc.a f, Pc.r y))) (List.take y.1 (lat pm (Ky.mk 4 [] (Fc.b f))))) nw) fm y.2}) (fun y => [(0, zp_ B.g 0), (3, zp_ b1 0), (15, .slice (Prod.fst (A.p (Ky.mk 4 [] (Fc.b f)))) (List.length (lat pm (Ky.mk 4 [] (Fc.b f)))) (Prod.snd (A.p (Ky.mk 4 [] (Fc.b f))))), (16, .int .i64 (List.length (lat pm (Ky.mk 4 [] (Fc.b f))) : Int)), (17, .int .i64 (y.1.1 : Int))]) (fun y => ((b1, .cells (Fc.cells f).toArray 41 (0, 0)) :: y.1.2)) (fun y => [gF B E, pF B pm A, aF B x A, uF B x A, oF B x A, iF B x A, rF B x A, sF B x A, E.ef]) (fun y => List.length (lat pm (Ky.mk 4 [] (Fc.b f))) - y.1.1) ⟨((0 : Nat), Hs), by simp, by exact hS⟩ ⟨rfl, rfl, rfl, rfl, rfl, trivial⟩ (l_ i_ be_) (fun _ _ h => h) ?_
 rintro ⟨⟨i, Hs_i⟩, hi_i, hS_i⟩
 dsimp only at hi_i hS_i ⊢
 have hb_i := hpl (Ky.mk 4 [] (Fc.b f))
 refine f_ (d_ (z_ (aC_ rfl rfl) rfl fun r1 hr1 => ?_))
 refine e_ (b_ rfl (f_ ?_))
 cases r1
 ·
  replace hr1 := of_decide_eq_false hr1
  refine r_ rfl (ay_ rfl (aQ_ rfl ?_))
  exact ch_ Tryz.results103 ⟨Hs_i, by unfold fj_; rw [List.take_of_length_le (by omega)] at hS_i; exact hS_i⟩ rfl ad_ (fun _ _ _ => trivial)
 ·
  replace hr1 := of_decide_eq_true hr1
  have hlx1 : i < List.length (lat pm (Ky.mk 4 [] (Fc.b f))) := by omega
  obtain ⟨x1, hx1⟩ : ∃ e0, (lat pm (Ky.mk 4 [] (Fc.b f)))[i]? = some e0 := ⟨_, List.getElem?_eq_getElem hlx1⟩
  have hmx1 : x1 ∈ (lat pm (Ky.mk 4 [] (Fc.b f))) := List.mem_of_getElem? hx1
  refine n_ rfl (B_ (b_ rfl (f_ (S_ (f_ (d_ (a_ (aj_ T_ W_ rfl rfl (fun v _ h => aO_ (n := 10) Pc.cells_len (by decide) (by exact (bJ_ h.2.1 (Ky.mk 4 [] (Fc.b f)))) hx1) (by omega) (by first | omega | (simp; done))) rfl (a_ (aG_ (ad := (Prod.fst (A.p (Ky.mk 4 [] (Fc.b f))))) (us := Pc.cells x1) bs_ W_ rfl (fun v _ h => by exact (bJ_ h.2.1 (Ky.mk 4 [] (Fc.b f)))) (Pc.cells_len _) (an_ Pc.cells_len hx1)) rfl (al_ as_ rfl fun b2 => ?_)))))))))
  refine ae_ 0 W_ rfl rfl rfl rfl rfl rfl (e_ (b_ rfl (f_ ?_)))
  refine aE_ (by kernel_rfl) ?_
  refine ab_ 0 [0, 1, 2, 3, 4, 5, 6, 7, 8, 9, 10, 11] (by kernel_rfl) (fun _ a b => ⟨a, b⟩) (j_ rfl (g_ rfl) rfl (j_ rfl (ag_ rfl) rfl (j_ rfl (k_ F_ rfl rfl rfl dn_) rfl (j_ rfl (Z_ dY_ rfl (fun v _ h => by exact h.1) rfl) rfl (j_ rfl (k_ s_ rfl rfl rfl p_) rfl (j_ rfl (o_ 1 v_ rfl rfl rfl) rfl (j_ rfl (k_ C_ rfl rfl rfl p_) rfl (j_ rfl (o_ 0 v_ rfl rfl rfl) rfl (j_ rfl (ao_ eZ_ rfl rfl) rfl ?_)))))))))
  refine j_ rfl (ck_ (k := ((Fc.a f), (Pc.r x1))) (adr := A.i) cO_ ca_ bC_ rfl rfl (fun v _ h => by exact h.2.2.2.2.2.1)) rfl (j_ rfl (at_ L_ rfl) rfl (j_ rfl (g_ rfl) rfl (aa_ (Y_ (by kernel_rfl) (b_ rfl (S_ ?_))))))
  refine aV_ (ι := {y : Nat × Hp // y.1 ≤ List.length (lat x.into ((Fc.a f), (Pc.r x1))) ∧ E.St (emits E.stp (List.map (fun a => ax_ a (Pc.c x1)) (List.take y.1 (lat x.into ((Fc.a f), (Pc.r x1))))) (emits E.stp (List.flatMap (fun y => List.map (fun a => ax_ a (Pc.c y)) (lat x.into (Fc.a f, Pc.r y))) (List.take i (lat pm (Ky.mk 4 [] (Fc.b f))))) nw)) fm y.2}) (fun y => [(0, zp_ B.g 0), (3, zp_ b1 0), (15, .slice (Prod.fst (A.p (Ky.mk 4 [] (Fc.b f)))) (List.length (lat pm (Ky.mk 4 [] (Fc.b f)))) (Prod.snd (A.p (Ky.mk 4 [] (Fc.b f))))), (16, .int .i64 (List.length (lat pm (Ky.mk 4 [] (Fc.b f))) : Int)), (17, .int .i64 (i : Int)), (5, zp_ b2 0), (30, .slice (Prod.fst (A.i ((Fc.a f), (Pc.r x1)))) (List.length (lat x.into ((Fc.a f), (Pc.r x1)))) (Prod.snd (A.i ((Fc.a f), (Pc.r x1))))), (31, .int .i64 (List.length (lat x.into ((Fc.a f), (Pc.r x1))) : Int)), (32, .int .i64 (y.1.1 : Int))]) (fun y => ((b2, .cells (Pc.cells x1).toArray 47 (0, 0)) :: ((b1, .cells (Fc.cells f).toArray 41 (0, 0)) :: y.1.2))) (fun y => [gF B E, pF B pm A, aF B x A, uF B x A, oF B x A, iF B x A, rF B x A, sF B x A, E.ef]) (fun y => List.length (lat x.into ((Fc.a f), (Pc.r x1))) - y.1.1) ⟨((0 : Nat), Hs_i), by simp, by exact hS_i⟩ ⟨rfl, rfl, rfl, rfl, rfl, rfl, rfl, rfl, rfl, trivial⟩ (l_ i_ (l_ i_ be_)) (fun _ _ h => h) ?_
  rintro ⟨⟨j, Hs_j⟩, hi_j, hS_j⟩
  dsimp only at hi_j hS_j ⊢
  have hb_j := (hyl ((Fc.a f), (Pc.r x1))).2.1
  refine f_ (d_ (z_ (aC_ rfl rfl) rfl fun r2 hr2 => ?_))
  refine e_ (b_ rfl (f_ ?_))
  cases r2
  ·
   replace hr2 := of_decide_eq_false hr2
   refine r_ rfl (ay_ rfl (b_ rfl (d_ (a_ (V_ rfl rfl rfl (am_ (by omega) (by omega))) rfl (a_ (g_ rfl) rfl (e_ (t_ rfl ?_)))))))
   exact ah_ ⟨(i + 1, Hs_j), hlx1, (by rw [gb_ hx1, aU_]; have e9 : List.take j (lat x.into (Fc.a f, Pc.r x1)) = (lat x.into (Fc.a f, Pc.r x1)) := List.take_of_length_le (by omega); rw [e9] at hS_j; exact hS_j)⟩ (by dsimp only; omega) ⟨rfl, rfl, rfl, rfl, rfl, trivial⟩ (l_ (c_ i_) ad_) (fun _ _ h => h)
  ·
   replace hr2 := of_decide_eq_true hr2
   have hlx2 : j < List.length (lat x.into ((Fc.a f), (Pc.r x1))) := by omega
   obtain ⟨x2, hx2⟩ : ∃ e0, (lat x.into ((Fc.a f), (Pc.r x1)))[j]? = some e0 := ⟨_, List.getElem?_eq_getElem hlx2⟩
   have hmx2 : x2 ∈ (lat x.into ((Fc.a f), (Pc.r x1))) := List.mem_of_getElem? hx2
   refine n_ rfl (B_ (b_ rfl (f_ (S_ (f_ (d_ (a_ (aj_ L_ p_ rfl rfl (fun v _ h => aO_ (n := 1) aX_ (by decide) (by exact (bJ_ h.2.2.2.2.2.1 ((Fc.a f), (Pc.r x1)))) hx2) (by omega) (by first | omega | (simp; done))) rfl (a_ (bA_ (ad := (Prod.fst (A.i ((Fc.a f), (Pc.r x1))))) v_ rfl (fun v _ h => by exact (bJ_ h.2.2.2.2.2.1 ((Fc.a f), (Pc.r x1)))) (an_ aX_ hx2 0 _ rfl)) rfl (a_ (h_ rfl) rfl ?_)))))))))
   refine e_ (b_ rfl ?_)
   refine aD_ ((b2, .cells (Pc.cells x1).toArray 47 (0, 0)) :: ((b1, .cells (Fc.cells f).toArray 41 (0, 0)) :: [])) (by kernel_rfl) ?_
   refine ab_ 2 [0, 1, 2, 3, 4, 5, 6] (by kernel_rfl) (fun _ a b => ⟨Vw.sat.sub (a.perm (l_ i_ i_)), b⟩) (j_ rfl (g_ rfl) rfl (j_ rfl (ag_ rfl) rfl (j_ rfl (k_ F_ rfl rfl rfl aR_) rfl (j_ rfl (Z_ bj_ rfl (fun v _ h => by exact h.1) rfl) rfl (j_ rfl (g_ rfl) rfl (j_ rfl (k_ C_ rfl rfl rfl p_) rfl (j_ rfl (o_ 0 v_ rfl rfl rfl) rfl (aa_ (N_ 7 rfl (by kernel_rfl) ?_)))))))))
   refine Q_ (eX_ x2 (Pc.c x1)) rfl X_ (fun _ _ _ => by exact trivial) rfl fun _ => ?_
   refine e_ (t_ rfl (E_ (fun _ a b => ⟨Vw.sat.sub (a.perm (l_ i_ i_)), b⟩) (N_ 8 rfl (by kernel_rfl) (aF_ (first := []) (cap := E.caps) (E.emit (ax_ x2 (Pc.c x1)) (emits E.stp (List.map (fun a => ax_ a (Pc.c x1)) (List.take j (lat x.into ((Fc.a f), (Pc.r x1))))) (emits E.stp (List.flatMap (fun y => List.map (fun a => ax_ a (Pc.c y)) (lat x.into (Fc.a f, Pc.r y))) (List.take i (lat pm (Ky.mk 4 [] (Fc.b f))))) nw)) fm Hs_j hS_j) rfl rfl (c_ ad_) (fun v _ h => by exact ⟨h.2.2.2.2.2.2.2.2.1, trivial⟩) rfl fun ⟨Hs1, hS1⟩ => ?_))))
   dsimp only
   refine e_ (t_ rfl (E_ (fun _ a b => ⟨Vw.sat.sub (a.perm (l_ (m_ i_) ba_)), b⟩) (Y_ (by kernel_rfl) (b_ rfl (d_ (a_ (V_ rfl rfl rfl (am_ (by omega) (by omega))) rfl (a_ (g_ rfl) rfl (e_ (t_ rfl ?_)))))))))
   exact ah_ ⟨(j + 1, Hs1), hlx2, (by rw [es_ hx2, aU_]; exact hS1)⟩ (by dsimp only; omega) ⟨rfl, rfl, rfl, rfl, rfl, rfl, rfl, rfl, rfl, trivial⟩ (l_ (m_ i_) (l_ ba_ be_)) (fun _ _ h => h)
theorem nS_ (B : EngB) (E : Emt Tryz.prog 41) (A : EngA) (pm : List (Ky × Pc)) (x : Ix) (f : Fc) (nw fm : List Fc) (Hs : Hp) (hS : E.St nw fm Hs) (hpl : ∀ k, (lat pm k).length ≤ 1000000000) (hxl : ∀ k, (lat x.above k).length ≤ 1000000000 ∧ (lat x.under k).length ≤ 1000000000) (hyl : ∀ k, (lat x.frm k).length ≤ 1000000000 ∧ (lat x.into k).length ≤ 1000000000 ∧ (lat x.ranges k).length ≤ 1000000000 ∧ (lat x.firms k).length ≤ 1000000000) : Tri Tryz.prog 108 #[zp_ B.g 0, Fc.val f] Hs [gF B E, pF B pm A, aF B x A, uF B x A, oF B x A, iF B x A, rF B x A, sF B x A, E.ef] (fun _ : {H' : Hp // E.St (emits E.stp (fi_ pm x f) nw) fm H'} => .tuple #[]) (fun y => y.1) (fun _ => []) := by
 refine R_ Tryz.func108 rfl rfl Tryz.ntmps108 rfl fun v0 => ?_
 refine f_ (d_ (aI_ rfl rfl fun b1 => ?_))
 refine e_ (b_ rfl (f_ ?_))
 refine aE_ (by kernel_rfl) ?_
 refine ab_ 0 [0, 1, 2, 3, 4, 5, 6, 7, 8] (by kernel_rfl) (fun _ a b => ⟨a, b⟩) (j_ rfl (g_ rfl) rfl (j_ rfl (ag_ rfl) rfl (j_ rfl (k_ F_ rfl rfl rfl hQ_) rfl (j_ rfl (Z_ nO_ rfl (fun v _ h => by exact h.1) rfl) rfl (j_ rfl (k_ s_ rfl rfl rfl p_) rfl (j_ rfl (o_ 0 v_ rfl rfl rfl) rfl (j_ rfl (ck_ (k := (Fc.b f)) (adr := A.a) fU_ cr_ bC_ rfl rfl (fun v _ h => by exact h.2.2.1)) rfl (j_ rfl (at_ L_ rfl) rfl (j_ rfl (g_ rfl) rfl ?_)))))))))
 refine aa_ (Y_ (by kernel_rfl) (b_ rfl (S_ ?_)))
 refine aV_ (ι := {y : Nat × Hp // y.1 ≤ List.length (lat x.above (Fc.b f)) ∧ E.St (emits E.stp (List.flatMap (fun y => List.map (fun a => ax_ (Fc.a f) (Pc.c a)) (lat pm (Ky.mk 4 (Fc.r f) y))) (List.take y.1 (lat x.above (Fc.b f)))) nw) fm y.2}) (fun y => [(0, zp_ B.g 0), (3, zp_ b1 0), (14, .slice (Prod.fst (A.a (Fc.b f))) (List.length (lat x.above (Fc.b f))) (Prod.snd (A.a (Fc.b f)))), (15, .int .i64 (List.length (lat x.above (Fc.b f)) : Int)), (16, .int .i64 (y.1.1 : Int))]) (fun y => ((b1, .cells (Fc.cells f).toArray 41 (0, 0)) :: y.1.2)) (fun y => [gF B E, pF B pm A, aF B x A, uF B x A, oF B x A, iF B x A, rF B x A, sF B x A, E.ef]) (fun y => List.length (lat x.above (Fc.b f)) - y.1.1) ⟨((0 : Nat), Hs), by simp, by exact hS⟩ ⟨rfl, rfl, rfl, rfl, rfl, trivial⟩ (l_ i_ be_) (fun _ _ h => h) ?_
 rintro ⟨⟨i, Hs_i⟩, hi_i, hS_i⟩
 dsimp only at hi_i hS_i ⊢
 have hb_i := (hxl (Fc.b f)).1
 refine f_ (d_ (z_ (aC_ rfl rfl) rfl fun r1 hr1 => ?_))
 refine e_ (b_ rfl (f_ ?_))
 cases r1
 ·
  replace hr1 := of_decide_eq_false hr1
  refine r_ rfl (ay_ rfl (aQ_ rfl ?_))
  exact ch_ Tryz.results108 ⟨Hs_i, by unfold fi_; rw [List.take_of_length_le (by omega)] at hS_i; exact hS_i⟩ rfl ad_ (fun _ _ _ => trivial)
 ·
  replace hr1 := of_decide_eq_true hr1
  have hlx1 : i < List.length (lat x.above (Fc.b f)) := by omega
  obtain ⟨x1, hx1⟩ : ∃ e0, (lat x.above (Fc.b f))[i]? = some e0 := ⟨_, List.getElem?_eq_getElem hlx1⟩
  have hmx1 : x1 ∈ (lat x.above (Fc.b f)) := List.mem_of_getElem? hx1
  refine n_ rfl (B_ (b_ rfl (f_ (S_ (f_ (d_ (a_ (aj_ L_ p_ rfl rfl (fun v _ h => aO_ (n := 1) aX_ (by decide) (by exact (bJ_ h.2.2.1 (Fc.b f))) hx1) (by omega) (by first | omega | (simp; done))) rfl (a_ (bA_ (ad := (Prod.fst (A.a (Fc.b f)))) v_ rfl (fun v _ h => by exact (bJ_ h.2.2.1 (Fc.b f))) (an_ aX_ hx1 0 _ rfl)) rfl (a_ (h_ rfl) rfl ?_)))))))))
  refine e_ (b_ rfl (f_ ?_))
  refine aE_ (by kernel_rfl) ?_
  refine ab_ 0 [0, 1, 2, 3, 4, 5, 6, 7, 8, 9, 10] (by kernel_rfl) (fun _ a b => ⟨a, b⟩) (j_ rfl (g_ rfl) rfl (j_ rfl (ag_ rfl) rfl (j_ rfl (k_ F_ rfl rfl rfl do_) rfl (j_ rfl (Z_ dZ_ rfl (fun v _ h => by exact h.1) rfl) rfl (j_ rfl (k_ s_ rfl rfl rfl p_) rfl (j_ rfl (o_ 0 v_ rfl rfl rfl) rfl (j_ rfl (g_ rfl) rfl (j_ rfl (ao_ en_ rfl rfl) rfl (j_ rfl (ck_ (k := (Ky.mk 4 (Fc.r f) x1)) (adr := A.p) fV_ cb_ cM_ rfl rfl (fun v _ h => by exact h.2.1)) rfl ?_)))))))))
  refine j_ rfl (at_ T_ rfl) rfl (j_ rfl (g_ rfl) rfl (aa_ (Y_ (by kernel_rfl) (b_ rfl (S_ ?_)))))
  refine aV_ (ι := {y : Nat × Hp // y.1 ≤ List.length (lat pm (Ky.mk 4 (Fc.r f) x1)) ∧ E.St (emits E.stp (List.map (fun a => ax_ (Fc.a f) (Pc.c a)) (List.take y.1 (lat pm (Ky.mk 4 (Fc.r f) x1)))) (emits E.stp (List.flatMap (fun y => List.map (fun a => ax_ (Fc.a f) (Pc.c a)) (lat pm (Ky.mk 4 (Fc.r f) y))) (List.take i (lat x.above (Fc.b f)))) nw)) fm y.2}) (fun y => [(0, zp_ B.g 0), (3, zp_ b1 0), (14, .slice (Prod.fst (A.a (Fc.b f))) (List.length (lat x.above (Fc.b f))) (Prod.snd (A.a (Fc.b f)))), (15, .int .i64 (List.length (lat x.above (Fc.b f)) : Int)), (16, .int .i64 (i : Int)), (28, .slice (Prod.fst (A.p (Ky.mk 4 (Fc.r f) x1))) (List.length (lat pm (Ky.mk 4 (Fc.r f) x1))) (Prod.snd (A.p (Ky.mk 4 (Fc.r f) x1)))), (29, .int .i64 (List.length (lat pm (Ky.mk 4 (Fc.r f) x1)) : Int)), (30, .int .i64 (y.1.1 : Int))]) (fun y => ((b1, .cells (Fc.cells f).toArray 41 (0, 0)) :: y.1.2)) (fun y => [gF B E, pF B pm A, aF B x A, uF B x A, oF B x A, iF B x A, rF B x A, sF B x A, E.ef]) (fun y => List.length (lat pm (Ky.mk 4 (Fc.r f) x1)) - y.1.1) ⟨((0 : Nat), Hs_i), by simp, by exact hS_i⟩ ⟨rfl, rfl, rfl, rfl, rfl, rfl, rfl, rfl, trivial⟩ (l_ i_ be_) (fun _ _ h => h) ?_
  rintro ⟨⟨j, Hs_j⟩, hi_j, hS_j⟩
  dsimp only at hi_j hS_j ⊢
  have hb_j := hpl (Ky.mk 4 (Fc.r f) x1)
  refine f_ (d_ (z_ (aC_ rfl rfl) rfl fun r2 hr2 => ?_))
  refine e_ (b_ rfl (f_ ?_))
  cases r2
  ·
   replace hr2 := of_decide_eq_false hr2
   refine r_ rfl (ay_ rfl (b_ rfl (d_ (a_ (V_ rfl rfl rfl (am_ (by omega) (by omega))) rfl (a_ (g_ rfl) rfl (e_ (t_ rfl ?_)))))))
   exact ah_ ⟨(i + 1, Hs_j), hlx1, (by rw [gb_ hx1, aU_]; have e9 : List.take j (lat pm (Ky.mk 4 (Fc.r f) x1)) = (lat pm (Ky.mk 4 (Fc.r f) x1)) := List.take_of_length_le (by omega); rw [e9] at hS_j; exact hS_j)⟩ (by dsimp only; omega) ⟨rfl, rfl, rfl, rfl, rfl, trivial⟩ (l_ i_ be_) (fun _ _ h => h)
  ·
   replace hr2 := of_decide_eq_true hr2
   have hlx2 : j < List.length (lat pm (Ky.mk 4 (Fc.r f) x1)) := by omega
   obtain ⟨x2, hx2⟩ : ∃ e0, (lat pm (Ky.mk 4 (Fc.r f) x1))[j]? = some e0 := ⟨_, List.getElem?_eq_getElem hlx2⟩
   have hmx2 : x2 ∈ (lat pm (Ky.mk 4 (Fc.r f) x1)) := List.mem_of_getElem? hx2
   refine n_ rfl (B_ (b_ rfl (f_ (S_ (f_ (d_ (a_ (aj_ T_ W_ rfl rfl (fun v _ h => aO_ (n := 10) Pc.cells_len (by decide) (by exact (bJ_ h.2.1 (Ky.mk 4 (Fc.r f) x1))) hx2) (by omega) (by first | omega | (simp; done))) rfl (a_ (aG_ (ad := (Prod.fst (A.p (Ky.mk 4 (Fc.r f) x1)))) (us := Pc.cells x2) bs_ W_ rfl (fun v _ h => by exact (bJ_ h.2.1 (Ky.mk 4 (Fc.r f) x1))) (Pc.cells_len _) (an_ Pc.cells_len hx2)) rfl (al_ as_ rfl fun b2 => ?_)))))))))
   refine ae_ 0 W_ rfl rfl rfl rfl rfl rfl (e_ (b_ rfl ?_))
   refine aD_ ((b2, .cells (Pc.cells x2).toArray 47 (0, 0)) :: ((b1, .cells (Fc.cells f).toArray 41 (0, 0)) :: [])) (by kernel_rfl) ?_
   refine ab_ 2 [0, 1, 2, 3, 4, 5, 6, 7] (by kernel_rfl) (fun _ a b => ⟨Vw.sat.sub (a.perm (l_ i_ i_)), b⟩) (j_ rfl (g_ rfl) rfl (j_ rfl (ag_ rfl) rfl (j_ rfl (k_ F_ rfl rfl rfl aR_) rfl (j_ rfl (Z_ bj_ rfl (fun v _ h => by exact h.1) rfl) rfl (j_ rfl (k_ s_ rfl rfl rfl p_) rfl (j_ rfl (o_ 1 v_ rfl rfl rfl) rfl (j_ rfl (k_ C_ rfl rfl rfl p_) rfl (j_ rfl (o_ 0 v_ rfl rfl rfl) rfl (aa_ ?_)))))))))
   refine N_ 8 rfl (by kernel_rfl) (Q_ (eX_ (Fc.a f) (Pc.c x2)) rfl X_ (fun _ _ _ => by exact trivial) rfl fun _ => ?_)
   refine e_ (t_ rfl (E_ (fun _ a b => ⟨Vw.sat.sub (a.perm (l_ i_ i_)), b⟩) (N_ 9 rfl (by kernel_rfl) (aF_ (first := []) (cap := E.caps) (E.emit (ax_ (Fc.a f) (Pc.c x2)) (emits E.stp (List.map (fun a => ax_ (Fc.a f) (Pc.c a)) (List.take j (lat pm (Ky.mk 4 (Fc.r f) x1)))) (emits E.stp (List.flatMap (fun y => List.map (fun a => ax_ (Fc.a f) (Pc.c a)) (lat pm (Ky.mk 4 (Fc.r f) y))) (List.take i (lat x.above (Fc.b f)))) nw)) fm Hs_j hS_j) rfl rfl (c_ ad_) (fun v _ h => by exact ⟨h.2.2.2.2.2.2.2.2.1, trivial⟩) rfl fun ⟨Hs1, hS1⟩ => ?_))))
   dsimp only
   refine e_ (t_ rfl (E_ (fun _ a b => ⟨Vw.sat.sub (a.perm (l_ (m_ i_) ba_)), b⟩) (Y_ (by kernel_rfl) (b_ rfl (d_ (a_ (V_ rfl rfl rfl (am_ (by omega) (by omega))) rfl (a_ (g_ rfl) rfl (e_ (t_ rfl ?_)))))))))
   exact ah_ ⟨(j + 1, Hs1), hlx2, (by rw [es_ hx2, aU_]; exact hS1)⟩ (by dsimp only; omega) ⟨rfl, rfl, rfl, rfl, rfl, rfl, rfl, rfl, trivial⟩ (l_ (m_ (c_ i_)) q_) (fun _ _ h => h)
theorem su_ (B : EngB) (E : Emt Tryz.prog 41) (A : EngA) (pm : List (Ky × Pc)) (x : Ix) (f : Fc) (nw fm : List Fc) (Hs : Hp) (hS : E.St nw fm Hs) (hpl : ∀ k, (lat pm k).length ≤ 1000000000) (hxl : ∀ k, (lat x.above k).length ≤ 1000000000 ∧ (lat x.under k).length ≤ 1000000000) (hyl : ∀ k, (lat x.frm k).length ≤ 1000000000 ∧ (lat x.into k).length ≤ 1000000000 ∧ (lat x.ranges k).length ≤ 1000000000 ∧ (lat x.firms k).length ≤ 1000000000) : Tri Tryz.prog 107 #[zp_ B.g 0, Fc.val f] Hs [gF B E, pF B pm A, aF B x A, uF B x A, oF B x A, iF B x A, rF B x A, sF B x A, E.ef] (fun _ : {H' : Hp // E.St (emits E.stp (ff_ pm x f ++ gy_ pm x f) nw) fm H'} => .tuple #[]) (fun y => y.1) (fun _ => []) := by
 refine R_ Tryz.func107 rfl rfl Tryz.ntmps107 rfl fun v0 => ?_
 refine f_ (d_ (aI_ rfl rfl fun b1 => ?_))
 refine e_ (b_ rfl (f_ (f_ ?_)))
 refine aE_ (by kernel_rfl) ?_
 refine ab_ 0 [0, 1, 2, 3, 4, 5, 6, 7, 8, 9] (by kernel_rfl) (fun _ a b => ⟨a, b⟩) (j_ rfl (g_ rfl) rfl (j_ rfl (ag_ rfl) rfl (j_ rfl (k_ F_ rfl rfl rfl do_) rfl (j_ rfl (Z_ dZ_ rfl (fun v _ h => by exact h.1) rfl) rfl (j_ rfl (k_ s_ rfl rfl rfl p_) rfl (j_ rfl (o_ 0 v_ rfl rfl rfl) rfl (j_ rfl (ao_ en_ rfl rfl) rfl (j_ rfl (ck_ (k := (Ky.mk 6 (Fc.r f) [])) (adr := A.p) fV_ cb_ cM_ rfl rfl (fun v _ h => by exact h.2.1)) rfl (j_ rfl (at_ T_ rfl) rfl ?_)))))))))
 refine j_ rfl (g_ rfl) rfl (aa_ (Y_ (by kernel_rfl) (b_ rfl (S_ ?_))))
 refine aV_ (ι := {y : Nat × Hp // y.1 ≤ List.length (lat pm (Ky.mk 6 (Fc.r f) [])) ∧ E.St (emits E.stp (List.flatMap (fun y => List.map (fun a => aN_ (Fc.a f) (Pc.t y) a) (lat x.frm (Fc.b f, Pc.s y))) (List.take y.1 (lat pm (Ky.mk 6 (Fc.r f) [])))) nw) fm y.2}) (fun y => [(0, zp_ B.g 0), (3, zp_ b1 0), (19, .slice (Prod.fst (A.p (Ky.mk 6 (Fc.r f) []))) (List.length (lat pm (Ky.mk 6 (Fc.r f) []))) (Prod.snd (A.p (Ky.mk 6 (Fc.r f) [])))), (20, .int .i64 (List.length (lat pm (Ky.mk 6 (Fc.r f) [])) : Int)), (21, .int .i64 (y.1.1 : Int))]) (fun y => ((b1, .cells (Fc.cells f).toArray 41 (0, 0)) :: y.1.2)) (fun y => [gF B E, pF B pm A, aF B x A, uF B x A, oF B x A, iF B x A, rF B x A, sF B x A, E.ef]) (fun y => List.length (lat pm (Ky.mk 6 (Fc.r f) [])) - y.1.1) ⟨((0 : Nat), Hs), by simp, by exact hS⟩ ⟨rfl, rfl, rfl, rfl, rfl, trivial⟩ (l_ i_ be_) (fun _ _ h => h) ?_
 rintro ⟨⟨i, Hs_i⟩, hi_i, hS_i⟩
 dsimp only at hi_i hS_i ⊢
 have hb_i := hpl (Ky.mk 6 (Fc.r f) [])
 refine f_ (d_ (z_ (aC_ rfl rfl) rfl fun r1 hr1 => ?_))
 refine e_ (b_ rfl (f_ ?_))
 cases r1
 ·
  replace hr1 := of_decide_eq_false hr1
  refine r_ rfl (ay_ rfl (b_ rfl (f_ ?_)))
  refine aE_ (by kernel_rfl) ?_
  refine ab_ 0 [0, 1, 2, 3, 4, 5, 6, 7, 8, 9] (by kernel_rfl) (fun _ a b => ⟨a, b⟩) (j_ rfl (g_ rfl) rfl (j_ rfl (ag_ rfl) rfl (j_ rfl (k_ F_ rfl rfl rfl do_) rfl (j_ rfl (Z_ dZ_ rfl (fun v _ h => by exact h.1) rfl) rfl (j_ rfl (k_ s_ rfl rfl rfl p_) rfl (j_ rfl (o_ 0 v_ rfl rfl rfl) rfl (j_ rfl (ao_ en_ rfl rfl) rfl (j_ rfl (ck_ (k := (Ky.mk 6 [] (Fc.r f))) (adr := A.p) fV_ cb_ cM_ rfl rfl (fun v _ h => by exact h.2.1)) rfl (j_ rfl (at_ T_ rfl) rfl ?_)))))))))
  refine j_ rfl (g_ rfl) rfl (aa_ (Y_ (by kernel_rfl) (b_ rfl (S_ ?_))))
  refine aV_ (ι := {y : Nat × Hp // y.1 ≤ List.length (lat pm (Ky.mk 6 [] (Fc.r f))) ∧ E.St (emits E.stp (List.flatMap (fun y => List.map (fun a => aN_ a (Pc.t y) (Fc.b f)) (lat x.into (Fc.a f, Pc.r y))) (List.take y.1 (lat pm (Ky.mk 6 [] (Fc.r f))))) (emits E.stp (ff_ pm x f) nw)) fm y.2}) (fun y => [(0, zp_ B.g 0), (3, zp_ b1 0), (19, .slice (Prod.fst (A.p (Ky.mk 6 (Fc.r f) []))) (List.length (lat pm (Ky.mk 6 (Fc.r f) []))) (Prod.snd (A.p (Ky.mk 6 (Fc.r f) [])))), (20, .int .i64 (List.length (lat pm (Ky.mk 6 (Fc.r f) [])) : Int)), (21, .int .i64 (i : Int)), (60, .slice (Prod.fst (A.p (Ky.mk 6 [] (Fc.r f)))) (List.length (lat pm (Ky.mk 6 [] (Fc.r f)))) (Prod.snd (A.p (Ky.mk 6 [] (Fc.r f))))), (61, .int .i64 (List.length (lat pm (Ky.mk 6 [] (Fc.r f))) : Int)), (62, .int .i64 (y.1.1 : Int))]) (fun y => ((b1, .cells (Fc.cells f).toArray 41 (0, 0)) :: y.1.2)) (fun y => [gF B E, pF B pm A, aF B x A, uF B x A, oF B x A, iF B x A, rF B x A, sF B x A, E.ef]) (fun y => List.length (lat pm (Ky.mk 6 [] (Fc.r f))) - y.1.1) ⟨((0 : Nat), Hs_i), by simp, by have e9 : List.take i (lat pm (Ky.mk 6 (Fc.r f) [])) = (lat pm (Ky.mk 6 (Fc.r f) [])) := List.take_of_length_le (by omega); rw [e9] at hS_i; exact hS_i⟩ ⟨rfl, rfl, rfl, rfl, rfl, rfl, rfl, rfl, trivial⟩ (l_ i_ be_) (fun _ _ h => h) ?_
  rintro ⟨⟨k, Hs_k⟩, hi_k, hS_k⟩
  dsimp only at hi_k hS_k ⊢
  have hb_k := hpl (Ky.mk 6 [] (Fc.r f))
  refine f_ (d_ (z_ (aC_ rfl rfl) rfl fun r2 hr2 => ?_))
  refine e_ (b_ rfl (f_ ?_))
  cases r2
  ·
   replace hr2 := of_decide_eq_false hr2
   refine r_ rfl (ay_ rfl (aQ_ rfl ?_))
   exact ch_ Tryz.results107 ⟨Hs_k, by rw [aU_]; unfold gy_; have e8 : List.take k (lat pm (Ky.mk 6 [] (Fc.r f))) = lat pm (Ky.mk 6 [] (Fc.r f)) := List.take_of_length_le (by omega); rw [e8] at hS_k; exact hS_k⟩ rfl ad_ (fun _ _ _ => trivial)
  ·
   replace hr2 := of_decide_eq_true hr2
   have hlx3 : k < List.length (lat pm (Ky.mk 6 [] (Fc.r f))) := by omega
   obtain ⟨x3, hx3⟩ : ∃ e0, (lat pm (Ky.mk 6 [] (Fc.r f)))[k]? = some e0 := ⟨_, List.getElem?_eq_getElem hlx3⟩
   have hmx3 : x3 ∈ (lat pm (Ky.mk 6 [] (Fc.r f))) := List.mem_of_getElem? hx3
   refine n_ rfl (B_ (b_ rfl (f_ (S_ (f_ (d_ (a_ (aj_ T_ W_ rfl rfl (fun v _ h => aO_ (n := 10) Pc.cells_len (by decide) (by exact (bJ_ h.2.1 (Ky.mk 6 [] (Fc.r f)))) hx3) (by omega) (by first | omega | (simp; done))) rfl (a_ (aG_ (ad := (Prod.fst (A.p (Ky.mk 6 [] (Fc.r f))))) (us := Pc.cells x3) bs_ W_ rfl (fun v _ h => by exact (bJ_ h.2.1 (Ky.mk 6 [] (Fc.r f)))) (Pc.cells_len _) (an_ Pc.cells_len hx3)) rfl (al_ as_ rfl fun b2 => ?_)))))))))
   refine ae_ 0 W_ rfl rfl rfl rfl rfl rfl (e_ (b_ rfl (f_ ?_)))
   refine aE_ (by kernel_rfl) ?_
   refine ab_ 0 [0, 1, 2, 3, 4, 5, 6, 7, 8, 9, 10, 11] (by kernel_rfl) (fun _ a b => ⟨a, b⟩) (j_ rfl (g_ rfl) rfl (j_ rfl (ag_ rfl) rfl (j_ rfl (k_ F_ rfl rfl rfl dn_) rfl (j_ rfl (Z_ dY_ rfl (fun v _ h => by exact h.1) rfl) rfl (j_ rfl (k_ s_ rfl rfl rfl p_) rfl (j_ rfl (o_ 1 v_ rfl rfl rfl) rfl (j_ rfl (k_ C_ rfl rfl rfl p_) rfl (j_ rfl (o_ 0 v_ rfl rfl rfl) rfl (j_ rfl (ao_ eZ_ rfl rfl) rfl ?_)))))))))
   refine j_ rfl (ck_ (k := ((Fc.a f), (Pc.r x3))) (adr := A.i) cO_ ca_ bC_ rfl rfl (fun v _ h => by exact h.2.2.2.2.2.1)) rfl (j_ rfl (at_ L_ rfl) rfl (j_ rfl (g_ rfl) rfl (aa_ (Y_ (by kernel_rfl) (b_ rfl (S_ ?_))))))
   refine aV_ (ι := {y : Nat × Hp // y.1 ≤ List.length (lat x.into ((Fc.a f), (Pc.r x3))) ∧ E.St (emits E.stp (List.map (fun a => aN_ a (Pc.t x3) (Fc.b f)) (List.take y.1 (lat x.into ((Fc.a f), (Pc.r x3))))) (emits E.stp (List.flatMap (fun y => List.map (fun a => aN_ a (Pc.t y) (Fc.b f)) (lat x.into (Fc.a f, Pc.r y))) (List.take k (lat pm (Ky.mk 6 [] (Fc.r f))))) (emits E.stp (ff_ pm x f) nw))) fm y.2}) (fun y => [(0, zp_ B.g 0), (3, zp_ b1 0), (19, .slice (Prod.fst (A.p (Ky.mk 6 (Fc.r f) []))) (List.length (lat pm (Ky.mk 6 (Fc.r f) []))) (Prod.snd (A.p (Ky.mk 6 (Fc.r f) [])))), (20, .int .i64 (List.length (lat pm (Ky.mk 6 (Fc.r f) [])) : Int)), (21, .int .i64 (i : Int)), (60, .slice (Prod.fst (A.p (Ky.mk 6 [] (Fc.r f)))) (List.length (lat pm (Ky.mk 6 [] (Fc.r f)))) (Prod.snd (A.p (Ky.mk 6 [] (Fc.r f))))), (61, .int .i64 (List.length (lat pm (Ky.mk 6 [] (Fc.r f))) : Int)), (62, .int .i64 (k : Int)), (9, zp_ b2 0), (75, .slice (Prod.fst (A.i ((Fc.a f), (Pc.r x3)))) (List.length (lat x.into ((Fc.a f), (Pc.r x3)))) (Prod.snd (A.i ((Fc.a f), (Pc.r x3))))), (76, .int .i64 (List.length (lat x.into ((Fc.a f), (Pc.r x3))) : Int)), (77, .int .i64 (y.1.1 : Int))]) (fun y => ((b2, .cells (Pc.cells x3).toArray 47 (0, 0)) :: ((b1, .cells (Fc.cells f).toArray 41 (0, 0)) :: y.1.2))) (fun y => [gF B E, pF B pm A, aF B x A, uF B x A, oF B x A, iF B x A, rF B x A, sF B x A, E.ef]) (fun y => List.length (lat x.into ((Fc.a f), (Pc.r x3))) - y.1.1) ⟨((0 : Nat), Hs_k), by simp, by exact hS_k⟩ ⟨rfl, rfl, rfl, rfl, rfl, rfl, rfl, rfl, rfl, rfl, rfl, rfl, trivial⟩ (l_ i_ (l_ i_ be_)) (fun _ _ h => h) ?_
   rintro ⟨⟨l, Hs_l⟩, hi_l, hS_l⟩
   dsimp only at hi_l hS_l ⊢
   have hb_l := (hyl ((Fc.a f), (Pc.r x3))).2.1
   refine f_ (d_ (z_ (aC_ rfl rfl) rfl fun r3 hr3 => ?_))
   refine e_ (b_ rfl (f_ ?_))
   cases r3
   ·
    replace hr3 := of_decide_eq_false hr3
    refine r_ rfl (ay_ rfl (b_ rfl (d_ (a_ (V_ rfl rfl rfl (am_ (by omega) (by omega))) rfl (a_ (g_ rfl) rfl (e_ (t_ rfl ?_)))))))
    exact ah_ ⟨(k + 1, Hs_l), hlx3, (by rw [gb_ hx3, aU_]; have e9 : List.take l (lat x.into (Fc.a f, Pc.r x3)) = (lat x.into (Fc.a f, Pc.r x3)) := List.take_of_length_le (by omega); rw [e9] at hS_l; exact hS_l)⟩ (by dsimp only; omega) ⟨rfl, rfl, rfl, rfl, rfl, rfl, rfl, rfl, trivial⟩ (l_ (c_ i_) ad_) (fun _ _ h => h)
   ·
    replace hr3 := of_decide_eq_true hr3
    have hlx4 : l < List.length (lat x.into ((Fc.a f), (Pc.r x3))) := by omega
    obtain ⟨x4, hx4⟩ : ∃ e0, (lat x.into ((Fc.a f), (Pc.r x3)))[l]? = some e0 := ⟨_, List.getElem?_eq_getElem hlx4⟩
    have hmx4 : x4 ∈ (lat x.into ((Fc.a f), (Pc.r x3))) := List.mem_of_getElem? hx4
    refine n_ rfl (B_ (b_ rfl (f_ (S_ (f_ (d_ (a_ (aj_ L_ p_ rfl rfl (fun v _ h => aO_ (n := 1) aX_ (by decide) (by exact (bJ_ h.2.2.2.2.2.1 ((Fc.a f), (Pc.r x3)))) hx4) (by omega) (by first | omega | (simp; done))) rfl (a_ (bA_ (ad := (Prod.fst (A.i ((Fc.a f), (Pc.r x3))))) v_ rfl (fun v _ h => by exact (bJ_ h.2.2.2.2.2.1 ((Fc.a f), (Pc.r x3)))) (an_ aX_ hx4 0 _ rfl)) rfl (a_ (h_ rfl) rfl ?_)))))))))
    refine e_ (b_ rfl ?_)
    refine aD_ ((b2, .cells (Pc.cells x3).toArray 47 (0, 0)) :: ((b1, .cells (Fc.cells f).toArray 41 (0, 0)) :: [])) (by kernel_rfl) ?_
    refine ab_ 2 [0, 1, 2, 3, 4, 5, 6, 7, 8] (by kernel_rfl) (fun _ a b => ⟨Vw.sat.sub (a.perm (l_ i_ i_)), b⟩) (j_ rfl (g_ rfl) rfl (j_ rfl (ag_ rfl) rfl (j_ rfl (k_ F_ rfl rfl rfl aR_) rfl (j_ rfl (Z_ bj_ rfl (fun v _ h => by exact h.1) rfl) rfl (j_ rfl (g_ rfl) rfl (j_ rfl (k_ C_ rfl rfl rfl p_) rfl (j_ rfl (o_ 0 v_ rfl rfl rfl) rfl (j_ rfl (k_ s_ rfl rfl rfl p_) rfl (j_ rfl (o_ 1 v_ rfl rfl rfl) rfl ?_)))))))))
    refine aa_ (N_ 9 rfl (by kernel_rfl) (Q_ (iI_ x4 (Pc.t x3) (Fc.b f)) rfl X_ (fun _ _ _ => by exact trivial) rfl fun _ => ?_))
    refine e_ (t_ rfl (E_ (fun _ a b => ⟨Vw.sat.sub (a.perm (l_ i_ i_)), b⟩) (N_ 10 rfl (by kernel_rfl) (aF_ (first := []) (cap := E.caps) (E.emit (aN_ x4 (Pc.t x3) (Fc.b f)) (emits E.stp (List.map (fun a => aN_ a (Pc.t x3) (Fc.b f)) (List.take l (lat x.into ((Fc.a f), (Pc.r x3))))) (emits E.stp (List.flatMap (fun y => List.map (fun a => aN_ a (Pc.t y) (Fc.b f)) (lat x.into (Fc.a f, Pc.r y))) (List.take k (lat pm (Ky.mk 6 [] (Fc.r f))))) (emits E.stp (ff_ pm x f) nw))) fm Hs_l hS_l) rfl rfl (c_ ad_) (fun v _ h => by exact ⟨h.2.2.2.2.2.2.2.2.1, trivial⟩) rfl fun ⟨Hs1, hS1⟩ => ?_))))
    dsimp only
    refine e_ (t_ rfl (E_ (fun _ a b => ⟨Vw.sat.sub (a.perm (l_ (m_ i_) ba_)), b⟩) (Y_ (by kernel_rfl) (b_ rfl (d_ (a_ (V_ rfl rfl rfl (am_ (by omega) (by omega))) rfl (a_ (g_ rfl) rfl (e_ (t_ rfl ?_)))))))))
    exact ah_ ⟨(l + 1, Hs1), hlx4, (by rw [es_ hx4, aU_]; exact hS1)⟩ (by dsimp only; omega) ⟨rfl, rfl, rfl, rfl, rfl, rfl, rfl, rfl, rfl, rfl, rfl, rfl, trivial⟩ (l_ (m_ i_) (l_ ba_ be_)) (fun _ _ h => h)
 ·
  replace hr1 := of_decide_eq_true hr1
  have hlx1 : i < List.length (lat pm (Ky.mk 6 (Fc.r f) [])) := by omega
  obtain ⟨x1, hx1⟩ : ∃ e0, (lat pm (Ky.mk 6 (Fc.r f) []))[i]? = some e0 := ⟨_, List.getElem?_eq_getElem hlx1⟩
  have hmx1 : x1 ∈ (lat pm (Ky.mk 6 (Fc.r f) [])) := List.mem_of_getElem? hx1
  refine n_ rfl (B_ (b_ rfl (f_ (S_ (f_ (d_ (a_ (aj_ T_ W_ rfl rfl (fun v _ h => aO_ (n := 10) Pc.cells_len (by decide) (by exact (bJ_ h.2.1 (Ky.mk 6 (Fc.r f) []))) hx1) (by omega) (by first | omega | (simp; done))) rfl (a_ (aG_ (ad := (Prod.fst (A.p (Ky.mk 6 (Fc.r f) [])))) (us := Pc.cells x1) bs_ W_ rfl (fun v _ h => by exact (bJ_ h.2.1 (Ky.mk 6 (Fc.r f) []))) (Pc.cells_len _) (an_ Pc.cells_len hx1)) rfl (al_ as_ rfl fun b3 => ?_)))))))))
  refine ae_ 0 W_ rfl rfl rfl rfl rfl rfl (e_ (b_ rfl (f_ ?_)))
  refine aE_ (by kernel_rfl) ?_
  refine ab_ 0 [0, 1, 2, 3, 4, 5, 6, 7, 8, 9, 10, 11] (by kernel_rfl) (fun _ a b => ⟨a, b⟩) (j_ rfl (g_ rfl) rfl (j_ rfl (ag_ rfl) rfl (j_ rfl (k_ F_ rfl rfl rfl dn_) rfl (j_ rfl (Z_ dY_ rfl (fun v _ h => by exact h.1) rfl) rfl (j_ rfl (k_ s_ rfl rfl rfl p_) rfl (j_ rfl (o_ 1 v_ rfl rfl rfl) rfl (j_ rfl (k_ C_ rfl rfl rfl p_) rfl (j_ rfl (o_ 0 v_ rfl rfl rfl) rfl (j_ rfl (ao_ eZ_ rfl rfl) rfl ?_)))))))))
  refine j_ rfl (ck_ (k := ((Fc.b f), (Pc.s x1))) (adr := A.o) cO_ ca_ bC_ rfl rfl (fun v _ h => by exact h.2.2.2.2.1)) rfl (j_ rfl (at_ L_ rfl) rfl (j_ rfl (g_ rfl) rfl (aa_ (Y_ (by kernel_rfl) (b_ rfl (S_ ?_))))))
  refine aV_ (ι := {y : Nat × Hp // y.1 ≤ List.length (lat x.frm ((Fc.b f), (Pc.s x1))) ∧ E.St (emits E.stp (List.map (fun a => aN_ (Fc.a f) (Pc.t x1) a) (List.take y.1 (lat x.frm ((Fc.b f), (Pc.s x1))))) (emits E.stp (List.flatMap (fun y => List.map (fun a => aN_ (Fc.a f) (Pc.t y) a) (lat x.frm (Fc.b f, Pc.s y))) (List.take i (lat pm (Ky.mk 6 (Fc.r f) [])))) nw)) fm y.2}) (fun y => [(0, zp_ B.g 0), (3, zp_ b1 0), (19, .slice (Prod.fst (A.p (Ky.mk 6 (Fc.r f) []))) (List.length (lat pm (Ky.mk 6 (Fc.r f) []))) (Prod.snd (A.p (Ky.mk 6 (Fc.r f) [])))), (20, .int .i64 (List.length (lat pm (Ky.mk 6 (Fc.r f) [])) : Int)), (21, .int .i64 (i : Int)), (5, zp_ b3 0), (34, .slice (Prod.fst (A.o ((Fc.b f), (Pc.s x1)))) (List.length (lat x.frm ((Fc.b f), (Pc.s x1)))) (Prod.snd (A.o ((Fc.b f), (Pc.s x1))))), (35, .int .i64 (List.length (lat x.frm ((Fc.b f), (Pc.s x1))) : Int)), (36, .int .i64 (y.1.1 : Int))]) (fun y => ((b3, .cells (Pc.cells x1).toArray 47 (0, 0)) :: ((b1, .cells (Fc.cells f).toArray 41 (0, 0)) :: y.1.2))) (fun y => [gF B E, pF B pm A, aF B x A, uF B x A, oF B x A, iF B x A, rF B x A, sF B x A, E.ef]) (fun y => List.length (lat x.frm ((Fc.b f), (Pc.s x1))) - y.1.1) ⟨((0 : Nat), Hs_i), by simp, by exact hS_i⟩ ⟨rfl, rfl, rfl, rfl, rfl, rfl, rfl, rfl, rfl, trivial⟩ (l_ i_ (l_ i_ be_)) (fun _ _ h => h) ?_
  rintro ⟨⟨j, Hs_j⟩, hi_j, hS_j⟩
  dsimp only at hi_j hS_j ⊢
  have hb_j := (hyl ((Fc.b f), (Pc.s x1))).1
  refine f_ (d_ (z_ (aC_ rfl rfl) rfl fun r4 hr4 => ?_))
  refine e_ (b_ rfl (f_ ?_))
  cases r4
  ·
   replace hr4 := of_decide_eq_false hr4
   refine r_ rfl (ay_ rfl (b_ rfl (d_ (a_ (V_ rfl rfl rfl (am_ (by omega) (by omega))) rfl (a_ (g_ rfl) rfl (e_ (t_ rfl ?_)))))))
   exact ah_ ⟨(i + 1, Hs_j), hlx1, (by rw [gb_ hx1, aU_]; have e9 : List.take j (lat x.frm (Fc.b f, Pc.s x1)) = (lat x.frm (Fc.b f, Pc.s x1)) := List.take_of_length_le (by omega); rw [e9] at hS_j; exact hS_j)⟩ (by dsimp only; omega) ⟨rfl, rfl, rfl, rfl, rfl, trivial⟩ (l_ (c_ i_) ad_) (fun _ _ h => h)
  ·
   replace hr4 := of_decide_eq_true hr4
   have hlx2 : j < List.length (lat x.frm ((Fc.b f), (Pc.s x1))) := by omega
   obtain ⟨x2, hx2⟩ : ∃ e0, (lat x.frm ((Fc.b f), (Pc.s x1)))[j]? = some e0 := ⟨_, List.getElem?_eq_getElem hlx2⟩
   have hmx2 : x2 ∈ (lat x.frm ((Fc.b f), (Pc.s x1))) := List.mem_of_getElem? hx2
   refine n_ rfl (B_ (b_ rfl (f_ (S_ (f_ (d_ (a_ (aj_ L_ p_ rfl rfl (fun v _ h => aO_ (n := 1) aX_ (by decide) (by exact (bJ_ h.2.2.2.2.1 ((Fc.b f), (Pc.s x1)))) hx2) (by omega) (by first | omega | (simp; done))) rfl (a_ (bA_ (ad := (Prod.fst (A.o ((Fc.b f), (Pc.s x1))))) v_ rfl (fun v _ h => by exact (bJ_ h.2.2.2.2.1 ((Fc.b f), (Pc.s x1)))) (an_ aX_ hx2 0 _ rfl)) rfl (a_ (h_ rfl) rfl ?_)))))))))
   refine e_ (b_ rfl ?_)
   refine aD_ ((b3, .cells (Pc.cells x1).toArray 47 (0, 0)) :: ((b1, .cells (Fc.cells f).toArray 41 (0, 0)) :: [])) (by kernel_rfl) ?_
   refine ab_ 2 [0, 1, 2, 3, 4, 5, 6, 7, 8] (by kernel_rfl) (fun _ a b => ⟨Vw.sat.sub (a.perm (l_ i_ i_)), b⟩) (j_ rfl (g_ rfl) rfl (j_ rfl (ag_ rfl) rfl (j_ rfl (k_ F_ rfl rfl rfl aR_) rfl (j_ rfl (Z_ bj_ rfl (fun v _ h => by exact h.1) rfl) rfl (j_ rfl (k_ s_ rfl rfl rfl p_) rfl (j_ rfl (o_ 1 v_ rfl rfl rfl) rfl (j_ rfl (k_ C_ rfl rfl rfl p_) rfl (j_ rfl (o_ 0 v_ rfl rfl rfl) rfl (j_ rfl (g_ rfl) rfl ?_)))))))))
   refine aa_ (N_ 9 rfl (by kernel_rfl) (Q_ (iI_ (Fc.a f) (Pc.t x1) x2) rfl X_ (fun _ _ _ => by exact trivial) rfl fun _ => ?_))
   refine e_ (t_ rfl (E_ (fun _ a b => ⟨Vw.sat.sub (a.perm (l_ i_ i_)), b⟩) (N_ 10 rfl (by kernel_rfl) (aF_ (first := []) (cap := E.caps) (E.emit (aN_ (Fc.a f) (Pc.t x1) x2) (emits E.stp (List.map (fun a => aN_ (Fc.a f) (Pc.t x1) a) (List.take j (lat x.frm ((Fc.b f), (Pc.s x1))))) (emits E.stp (List.flatMap (fun y => List.map (fun a => aN_ (Fc.a f) (Pc.t y) a) (lat x.frm (Fc.b f, Pc.s y))) (List.take i (lat pm (Ky.mk 6 (Fc.r f) [])))) nw)) fm Hs_j hS_j) rfl rfl (c_ ad_) (fun v _ h => by exact ⟨h.2.2.2.2.2.2.2.2.1, trivial⟩) rfl fun ⟨Hs2, hS2⟩ => ?_))))
   dsimp only
   refine e_ (t_ rfl (E_ (fun _ a b => ⟨Vw.sat.sub (a.perm (l_ (m_ i_) ba_)), b⟩) (Y_ (by kernel_rfl) (b_ rfl (d_ (a_ (V_ rfl rfl rfl (am_ (by omega) (by omega))) rfl (a_ (g_ rfl) rfl (e_ (t_ rfl ?_)))))))))
   exact ah_ ⟨(j + 1, Hs2), hlx2, (by rw [es_ hx2, aU_]; exact hS2)⟩ (by dsimp only; omega) ⟨rfl, rfl, rfl, rfl, rfl, rfl, rfl, rfl, rfl, trivial⟩ (l_ (m_ i_) (l_ ba_ be_)) (fun _ _ h => h)
theorem ni_ (B : EngB) (E : Emt Tryz.prog 41) (A : EngA) (pm : List (Ky × Pc)) (x : Ix) (f : Fc) (nw fm : List Fc) (Hs : Hp) (hS : E.St nw fm Hs) (hpl : ∀ k, (lat pm k).length ≤ 1000000000) (hxl : ∀ k, (lat x.above k).length ≤ 1000000000 ∧ (lat x.under k).length ≤ 1000000000) (hyl : ∀ k, (lat x.frm k).length ≤ 1000000000 ∧ (lat x.into k).length ≤ 1000000000 ∧ (lat x.ranges k).length ≤ 1000000000 ∧ (lat x.firms k).length ≤ 1000000000) : Tri Tryz.prog 104 #[zp_ B.g 0, Fc.val f] Hs [gF B E, pF B pm A, aF B x A, uF B x A, oF B x A, iF B x A, rF B x A, sF B x A, E.ef] (fun _ : {H' : Hp // E.St (emits E.stp (dk_ x f) nw) fm H'} => .tuple #[]) (fun y => y.1) (fun _ => []) := by
 refine R_ Tryz.func104 rfl rfl Tryz.ntmps104 rfl fun v0 => ?_
 refine f_ (d_ (aI_ rfl rfl fun b1 => ?_))
 refine e_ (b_ rfl (f_ (d_ (a_ (k_ s_ rfl rfl rfl p_) rfl (a_ (o_ 0 v_ rfl rfl rfl) rfl (z_ (bu_ rfl rfl) rfl fun r1 hr1 => ?_))))))
 refine e_ (b_ rfl ?_)
 cases r1
 ·
  replace hr1 := ne_of_beq_false hr1
  refine r_ rfl (B_ (aQ_ rfl ?_))
  exact ch_ Tryz.results104 ⟨Hs, by unfold dk_; rw [if_neg (by assumption)]; exact hS⟩ rfl ad_ (fun _ _ _ => trivial)
 ·
  replace hr1 := eq_of_beq hr1
  refine n_ rfl (f_ ?_)
  refine aE_ (by kernel_rfl) ?_
  refine ab_ 0 [0, 1, 2, 3, 4, 5, 6, 7, 8] (by kernel_rfl) (fun _ a b => ⟨a, b⟩) (j_ rfl (g_ rfl) rfl (j_ rfl (ag_ rfl) rfl (j_ rfl (k_ F_ rfl rfl rfl hQ_) rfl (j_ rfl (Z_ nO_ rfl (fun v _ h => by exact h.1) rfl) rfl (j_ rfl (k_ s_ rfl rfl rfl p_) rfl (j_ rfl (o_ 0 v_ rfl rfl rfl) rfl (j_ rfl (ck_ (k := (Fc.a f)) (adr := A.u) fU_ cr_ bC_ rfl rfl (fun v _ h => by exact h.2.2.2.1)) rfl (j_ rfl (at_ L_ rfl) rfl (j_ rfl (g_ rfl) rfl ?_)))))))))
  refine aa_ (Y_ (by kernel_rfl) (b_ rfl (S_ ?_)))
  refine aV_ (ι := {y : Nat × Hp // y.1 ≤ List.length (lat x.under (Fc.a f)) ∧ E.St (emits E.stp (List.map (fun a => ax_ a [33]) (List.take y.1 (lat x.under (Fc.a f)))) nw) fm y.2}) (fun y => [(0, zp_ B.g 0), (15, .slice (Prod.fst (A.u (Fc.a f))) (List.length (lat x.under (Fc.a f))) (Prod.snd (A.u (Fc.a f)))), (16, .int .i64 (List.length (lat x.under (Fc.a f)) : Int)), (17, .int .i64 (y.1.1 : Int))]) (fun y => (y.1.2)) (fun y => [gF B E, pF B pm A, aF B x A, uF B x A, oF B x A, iF B x A, rF B x A, sF B x A, E.ef]) (fun y => List.length (lat x.under (Fc.a f)) - y.1.1) ⟨((0 : Nat), Hs), by simp, by exact hS⟩ ⟨rfl, rfl, rfl, rfl, trivial⟩ ad_ (fun _ _ h => h) ?_
  rintro ⟨⟨i, Hs_i⟩, hi_i, hS_i⟩
  dsimp only at hi_i hS_i ⊢
  have hb_i := (hxl (Fc.a f)).2
  refine f_ (d_ (z_ (aC_ rfl rfl) rfl fun r2 hr2 => ?_))
  refine e_ (b_ rfl (f_ ?_))
  cases r2
  ·
   replace hr2 := of_decide_eq_false hr2
   refine r_ rfl (ay_ rfl (aQ_ rfl ?_))
   exact ch_ Tryz.results104 ⟨Hs_i, by unfold dk_; rw [if_pos (by assumption)]; rw [List.take_of_length_le (by omega)] at hS_i; exact hS_i⟩ rfl be_ (fun _ _ _ => trivial)
  ·
   replace hr2 := of_decide_eq_true hr2
   have hlx1 : i < List.length (lat x.under (Fc.a f)) := by omega
   obtain ⟨x1, hx1⟩ : ∃ e0, (lat x.under (Fc.a f))[i]? = some e0 := ⟨_, List.getElem?_eq_getElem hlx1⟩
   have hmx1 : x1 ∈ (lat x.under (Fc.a f)) := List.mem_of_getElem? hx1
   refine n_ rfl (B_ (b_ rfl (f_ (S_ (f_ (d_ (a_ (aj_ L_ p_ rfl rfl (fun v _ h => aO_ (n := 1) aX_ (by decide) (by exact (bJ_ h.2.2.2.1 (Fc.a f))) hx1) (by omega) (by first | omega | (simp; done))) rfl (a_ (bA_ (ad := (Prod.fst (A.u (Fc.a f)))) v_ rfl (fun v _ h => by exact (bJ_ h.2.2.2.1 (Fc.a f))) (an_ aX_ hx1 0 _ rfl)) rfl (a_ (h_ rfl) rfl ?_)))))))))
   refine e_ (b_ rfl ?_)
   refine aD_ ([]) (by kernel_rfl) ?_
   refine ab_ 2 [0, 1, 2, 3, 4] (by kernel_rfl) (fun _ a b => ⟨dH_ a, b⟩) (j_ rfl (g_ rfl) rfl (j_ rfl (ag_ rfl) rfl (j_ rfl (k_ F_ rfl rfl rfl aR_) rfl (j_ rfl (Z_ bj_ rfl (fun v _ h => by exact h.1) rfl) rfl (j_ rfl (g_ rfl) rfl (aa_ (N_ 5 rfl (by kernel_rfl) (Q_ (eX_ x1 [33]) rfl X_ (fun _ _ _ => by exact trivial) rfl fun _ => ?_))))))))
   refine ap_ ox_ (e_ (t_ rfl (E_ (fun _ a b => ⟨dH_ a, b⟩) (N_ 6 rfl (by kernel_rfl) (aF_ (first := []) (cap := E.caps) (E.emit (ax_ x1 [33]) (emits E.stp (List.map (fun a => ax_ a [33]) (List.take i (lat x.under (Fc.a f)))) nw) fm Hs_i hS_i) rfl rfl be_ (fun v _ h => by exact ⟨h.2.2.2.2.2.2.2.2.1, trivial⟩) rfl fun ⟨Hs1, hS1⟩ => ?_)))))
   dsimp only
   refine ap_ if_ (e_ (t_ rfl (E_ (fun _ a b => ⟨dH_ a, b⟩) (Y_ (by kernel_rfl) (b_ rfl (d_ (a_ (V_ rfl rfl rfl (am_ (by omega) (by omega))) rfl (a_ (g_ rfl) rfl (e_ ?_)))))))))
   refine t_ rfl ?_
   exact ah_ ⟨(i + 1, Hs1), hlx1, (by rw [es_ hx1, aU_]; exact hS1)⟩ (by dsimp only; omega) ⟨rfl, rfl, rfl, rfl, trivial⟩ be_ (fun _ _ h => h)
theorem nh_ (B : EngB) (E : Emt Tryz.prog 41) (A : EngA) (pm : List (Ky × Pc)) (x : Ix) (f : Fc) (nw fm : List Fc) (Hs : Hp) (hS : E.St nw fm Hs) (hpl : ∀ k, (lat pm k).length ≤ 1000000000) (hxl : ∀ k, (lat x.above k).length ≤ 1000000000 ∧ (lat x.under k).length ≤ 1000000000) (hyl : ∀ k, (lat x.frm k).length ≤ 1000000000 ∧ (lat x.into k).length ≤ 1000000000 ∧ (lat x.ranges k).length ≤ 1000000000 ∧ (lat x.firms k).length ≤ 1000000000) : Tri Tryz.prog 109 #[zp_ B.g 0, Fc.val f] Hs [gF B E, pF B pm A, aF B x A, uF B x A, oF B x A, iF B x A, rF B x A, sF B x A, E.ef] (fun _ : {H' : Hp // E.St (if ax_ (Fc.b f) [33] ∈ E.kof nw then E.stp (ax_ (Fc.a f) [33]) nw else nw) fm H'} => .tuple #[]) (fun y => y.1) (fun _ => []) := by
  refine R_ Tryz.func109 rfl rfl Tryz.ntmps109 rfl fun v0 => ?_
  refine f_ (d_ (aI_ rfl rfl fun b1 => ?_))
  refine e_ (b_ rfl (f_ ?_))
  refine aE_ (by kernel_rfl) ?_
  refine ab_ 2 [0, 1, 2, 3, 4, 5] (by kernel_rfl) (fun _ a b => ⟨a, b⟩) (j_ rfl (g_ rfl) rfl (j_ rfl (ag_ rfl) rfl (j_ rfl (k_ F_ rfl rfl rfl bv_) rfl (j_ rfl (Z_ bD_ rfl (fun v _ h => by exact h.1) rfl) rfl (j_ rfl (k_ s_ rfl rfl rfl p_) rfl (j_ rfl (o_ 0 v_ rfl rfl rfl) rfl (aa_ (N_ 6 rfl (by kernel_rfl) (Q_ (eX_ (Fc.b f) [33]) rfl X_ (fun _ _ _ => by exact trivial) rfl fun _ => ?_)))))))))
  refine e_ (t_ rfl (E_ (fun _ a b => ⟨a, b⟩) (ab_ 0 [7] (by kernel_rfl) (fun _ a b => ⟨a, b⟩) ?_)))
  refine cK_ rfl (hj_ (f := (ax_ (Fc.b f) [33])) hS fW_ aS_ bV_ rfl rfl ad_) rfl fun r1 hr1 => ?_
  refine aa_ (Y_ (by kernel_rfl) (b_ rfl ?_))
  cases r1
  · skip
    replace hr1 := of_decide_eq_false hr1
    refine r_ rfl (B_ (aQ_ rfl ?_))
    exact ch_ Tryz.results109 ⟨Hs, by first | (rw [if_pos (by assumption)]; exact hS) | (rw [if_neg (by assumption)]; exact hS)⟩ rfl ad_ (fun _ _ _ => trivial)
  · skip
    replace hr1 := of_decide_eq_true hr1
    refine n_ rfl ?_
    refine aD_ ((b1, .cells (Fc.cells f).toArray 41 (0, 0)) :: []) (by kernel_rfl) ?_
    refine ab_ 2 [0, 1, 2, 3, 4, 5] (by kernel_rfl) (fun _ a b => ⟨Vw.sat.sub (a.perm i_), b⟩) (j_ rfl (g_ rfl) rfl (j_ rfl (ag_ rfl) rfl (j_ rfl (k_ F_ rfl rfl rfl aR_) rfl (j_ rfl (Z_ bj_ rfl (fun v _ h => by exact h.1) rfl) rfl (j_ rfl (k_ s_ rfl rfl rfl p_) rfl (j_ rfl (o_ 0 v_ rfl rfl rfl) rfl (aa_ (N_ 6 rfl (by kernel_rfl) (Q_ (eX_ (Fc.a f) [33]) rfl X_ (fun _ _ _ => by exact trivial) rfl fun _ => ?_)))))))))
    refine e_ (t_ rfl (E_ (fun _ a b => ⟨Vw.sat.sub (a.perm i_), b⟩) (N_ 7 rfl (by kernel_rfl) (aF_ (first := []) (cap := E.caps) (E.emit (ax_ (Fc.a f) [33]) nw fm Hs hS) rfl rfl ad_ (fun v _ h => by exact ⟨h.2.2.2.2.2.2.2.2.1, trivial⟩) rfl fun ⟨Hs1, hS1⟩ => ?_))))
    dsimp only
    refine e_ (t_ rfl (E_ (fun _ a b => ⟨Vw.sat.sub (a.perm ba_), b⟩) (Y_ (by kernel_rfl) (aQ_ rfl ?_))))
    exact ch_ Tryz.results109 ⟨Hs1, by first | (rw [if_pos (by assumption)]; exact hS1) | (rw [if_neg (by assumption)]; exact hS1)⟩ rfl q_ (fun _ _ _ => trivial)
end Go.Proofs.YtpdbbglpbngeiaaGreatDoor
namespace Go.Proofs.YtpdbbglpbngeiaaGreatDoor
open Go Go.Sx Go.Proofs
attribute [local irreducible] Code.wp wpList wpAnyH
open Go.Vs
def ivC (i : Int × Int) : List Value := [.int .i64 i.1, .int .i64 i.2]
theorem lz_ (i : Int × Int) : (ivC i).length = 2 := rfl
def ivV (i : Int × Int) : Value := .agg (ivC i).toArray
def fC_ (i : Int × Int) : Int := if min i.1 i.2 < -1099511627776 ∨ 1099511627776 < max i.1 i.2 then 1 else if i.2 < i.1 then 80 else 0
def iJ_ (e : Int) (i : Int × Int) : Int := if e ≠ 0 then e else fC_ i
def fJ_ (l : List (Int × Int)) : Int := l.foldl iJ_ 0
theorem mW_ {l : List (Int × Int)} {i : Nat} {x : Int × Int} (h : l[i]? = some x) : fJ_ (List.take (i + 1) l) = iJ_ (fJ_ (List.take i l)) x := by
  unfold fJ_; rw [List.take_add_one, h, Option.toList_some, List.foldl_append]; rfl
def pM_ (a b : Int × Int) : Bool := decide (fJ_ [a, b] = 0) && (decide (b.1 ≤ a.1) && decide (a.2 ≤ b.2))
theorem sh_ {a b : Int × Int} (ha : -1099511627776 ≤ a.1 ∧ a.1 ≤ a.2 ∧ a.2 ≤ 1099511627776) (hb : -1099511627776 ≤ b.1 ∧ b.1 ≤ b.2 ∧ b.2 ≤ 1099511627776) : pM_ a b = decide (b.1 ≤ a.1 ∧ a.2 ≤ b.2) := by
  have e : ∀ i : Int × Int, -1099511627776 ≤ i.1 ∧ i.1 ≤ i.2 ∧ i.2 ≤ 1099511627776 → fC_ i = 0 := fun i h => by
    unfold fC_; rw [if_neg (by omega), if_neg (by omega)]
  have e2 : fJ_ [a, b] = 0 := by simp [fJ_, iJ_, e a ha, e b hb]
  unfold pM_; rw [e2, Bool.eq_iff_iff]; simp
theorem oj_ : kE_ Tryz.prog 175 [(0, 1), (1, 1)] [.int .i64 0, .int .i64 0] := ⟨_, Tryz.zeroValue175, bU_, fun w => by simp [I_]⟩
theorem pN_ (i : Int × Int) : Fn0 Tryz.prog 206 #[ivV i] (.int .i64 (fC_ i)) := by
  refine R_ Tryz.func206 rfl rfl Tryz.ntmps206 rfl fun v0 => ?_
  refine f_ (d_ (aI_ rfl rfl fun b1 => ?_))
  refine a_ (h_ rfl) rfl (e_ (b_ rfl (f_ (f_ (d_ (a_ (k_ bU_ rfl rfl rfl I_) rfl (a_ (o_ 0 J_ rfl rfl rfl) rfl (a_ (k_ bU_ rfl rfl rfl I_) rfl (a_ (o_ 0 J_ rfl rfl rfl) rfl ?_)))))))))
  refine a_ (hT_ rfl rfl) rfl (z_ (aC_ rfl rfl) rfl fun r1 hr1 => ?_)
  refine a_ (g_ rfl) rfl ?_
  cases r1
  · skip
    replace hr1 := of_decide_eq_false hr1
    refine u_ rfl rfl (a_ (k_ bU_ rfl rfl rfl I_) rfl (u_ rfl rfl (a_ (o_ 0 J_ rfl rfl rfl) rfl (u_ rfl rfl (a_ (k_ bU_ rfl rfl rfl I_) rfl (u_ rfl rfl (a_ (o_ 0 J_ rfl rfl rfl) rfl (u_ rfl rfl (a_ (jx_ rfl rfl) rfl ?_)))))))))
    refine u_ rfl rfl (z_ (bS_ rfl rfl) rfl fun r2 hr2 => ?_)
    refine a_ (H_ rfl rfl) rfl (e_ (b_ rfl ?_))
    cases r2
    · skip
      replace hr2 := of_decide_eq_false hr2
      refine r_ rfl (B_ (b_ rfl (f_ (f_ (d_ (a_ (k_ bU_ rfl rfl rfl I_) rfl (a_ (o_ 0 J_ rfl rfl rfl) rfl (a_ (k_ bU_ rfl rfl rfl I_) rfl (a_ (o_ 0 J_ rfl rfl rfl) rfl ?_)))))))))
      refine z_ (bS_ rfl rfl) rfl fun r3 hr3 => ?_
      refine e_ (b_ rfl ?_)
      cases r3
      · skip
        replace hr3 := of_decide_eq_false hr3
        refine r_ rfl (B_ (b_ rfl (f_ (d_ (a_ (h_ rfl) rfl (e_ (b_ rfl (D_ ?_))))))))
        exact ar_ Tryz.results206 () (aK_ rfl (by unfold fC_; first | (rw [if_pos (by omega)]) | (rw [if_neg (by omega), if_pos (by omega)]) | (rw [if_neg (by omega), if_neg (by omega)]))) X_ (fun _ _ _ => trivial)
      · skip
        replace hr3 := of_decide_eq_true hr3
        refine n_ rfl (f_ (d_ (a_ (h_ rfl) rfl (e_ (b_ rfl (D_ ?_))))))
        exact ar_ Tryz.results206 () (aK_ rfl (by unfold fC_; first | (rw [if_pos (by omega)]) | (rw [if_neg (by omega), if_pos (by omega)]) | (rw [if_neg (by omega), if_neg (by omega)]))) X_ (fun _ _ _ => trivial)
    · skip
      replace hr2 := of_decide_eq_true hr2
      refine n_ rfl (f_ (d_ (a_ (h_ rfl) rfl (e_ (b_ rfl (D_ ?_))))))
      exact ar_ Tryz.results206 () (aK_ rfl (by unfold fC_; first | (rw [if_pos (by omega)]) | (rw [if_neg (by omega), if_pos (by omega)]) | (rw [if_neg (by omega), if_neg (by omega)]))) X_ (fun _ _ _ => trivial)
  · skip
    replace hr1 := of_decide_eq_true hr1
    refine w_ rfl rfl rfl rfl (w_ rfl rfl rfl rfl (w_ rfl rfl rfl rfl (w_ rfl rfl rfl rfl (w_ rfl rfl rfl rfl (w_ rfl rfl rfl rfl (a_ (P_ rfl rfl) rfl (e_ (b_ rfl (n_ rfl ?_)))))))))
    refine f_ (d_ (a_ (h_ rfl) rfl (e_ (b_ rfl (D_ ?_)))))
    exact ar_ Tryz.results206 () (aK_ rfl (by unfold fC_; first | (rw [if_pos (by omega)]) | (rw [if_neg (by omega), if_pos (by omega)]) | (rw [if_neg (by omega), if_neg (by omega)]))) X_ (fun _ _ _ => trivial)
theorem sg_ (e : Int) (i : Int × Int) : Fn0 Tryz.prog 205 #[.int .i64 e, ivV i] (.int .i64 (iJ_ e i)) := by
  refine R_ Tryz.func205 rfl rfl Tryz.ntmps205 rfl fun v0 => ?_
  refine f_ (d_ (aI_ rfl rfl fun b1 => ?_))
  refine a_ (h_ rfl) rfl (e_ (b_ rfl (f_ (f_ (d_ (a_ (g_ rfl) rfl (z_ (cJ_ rfl rfl) rfl fun r1 hr1 => ?_)))))))
  refine e_ (b_ rfl ?_)
  cases r1
  · skip
    replace hr1 := bN_ hr1
    refine r_ rfl (B_ (b_ rfl (f_ (d_ (a_ (K_ 0 sK_ fn_ rfl rfl rfl) rfl (Q_ (pN_ i) rfl X_ (fun _ _ _ => by exact trivial) rfl fun _ => ?_))))))
    refine a_ (h_ rfl) rfl (e_ (b_ rfl (D_ ?_)))
    exact ar_ Tryz.results205 () (aK_ rfl (by unfold iJ_; first | (rw [if_pos (by assumption)]) | (rw [if_neg (by omega)]))) X_ (fun _ _ _ => trivial)
  · skip
    replace hr1 := bM_ hr1
    refine n_ rfl (f_ (d_ (a_ (g_ rfl) rfl (a_ (h_ rfl) rfl (e_ (b_ rfl (D_ ?_)))))))
    exact ar_ Tryz.results205 () (aK_ rfl (by unfold iJ_; first | (rw [if_pos (by assumption)]) | (rw [if_neg (by omega)]))) X_ (fun _ _ _ => trivial)
theorem nL_ (l : List (Int × Int)) (ad : Option Addr) (cap : Nat) (hl : l.length ≤ 1000000) : Tri Tryz.prog 204 #[.slice ad (List.length l) cap, .int .i64 0, .func (.func 205) #[] #[]] [] [bb_ ad (List.flatMap ivC l)] (fun _ : Unit => .int .i64 (fJ_ l)) (fun _ => []) (fun _ => []) := by
  refine R_ Tryz.func204 rfl rfl Tryz.ntmps204 rfl fun v0 => ?_
  refine f_ (d_ (a_ (h_ rfl) rfl (e_ (b_ rfl (f_ (f_ (d_ (a_ (g_ rfl) rfl (a_ (at_ Tryz.runUnderlying223 rfl) rfl ?_)))))))))
  refine a_ (g_ rfl) rfl (e_ (b_ rfl (S_ ?_)))
  refine aV_ (ι := {y : Nat // y ≤ l.length}) (fun y => [(1, .int .i64 (fJ_ (List.take y.1 l))), (2, .func (.func 205) #[] #[]), (9, .slice ad (List.length l) cap), (10, .int .i64 (List.length l : Int)), (11, .int .i64 (y.1 : Int))]) (fun y => ([])) (fun y => [bb_ ad (List.flatMap ivC l)]) (fun y => l.length - y.1) ⟨(0 : Nat), by simp⟩ ⟨rfl, rfl, rfl, rfl, rfl, trivial⟩ X_ (fun _ _ h => h) ?_
  rintro ⟨i, hi⟩
  dsimp only at hi ⊢
  refine f_ (d_ (z_ (aC_ rfl rfl) rfl fun r1 hr1 => ?_))
  refine e_ (b_ rfl (f_ ?_))
  cases r1
  · skip
    replace hr1 := of_decide_eq_false hr1
    refine r_ rfl (ay_ rfl (b_ rfl (f_ (d_ (a_ (g_ rfl) rfl (a_ (h_ rfl) rfl (e_ (b_ rfl (D_ ?_)))))))))
    exact ar_ Tryz.results204 () (aK_ rfl (by rw [List.take_of_length_le (by omega)])) X_ (fun _ _ _ => trivial)
  · skip
    replace hr1 := of_decide_eq_true hr1
    have hlx1 : i < List.length l := by omega
    obtain ⟨x1, hx1⟩ : ∃ e0, l[i]? = some e0 := ⟨_, List.getElem?_eq_getElem hlx1⟩
    have hmx1 : x1 ∈ l := List.mem_of_getElem? hx1
    refine n_ rfl (B_ (b_ rfl (f_ (S_ (f_ (d_ (a_ (aj_ Tryz.runUnderlying223 fn_ rfl rfl (fun v _ h => aO_ (n := 2) lz_ (by decide) (by exact h.1) hx1) (by omega) (by first | omega | (simp; done))) rfl (a_ (aG_ (ad := ad) (us := ivC x1) sK_ fn_ rfl (fun v _ h => by exact h.1) (lz_ _) (an_ lz_ hx1)) rfl (al_ Tryz.zeroValue175 rfl fun b1 => ?_)))))))))
    refine ae_ 0 fn_ rfl rfl rfl rfl rfl rfl (e_ (b_ rfl (d_ (a_ (g_ rfl) rfl (a_ (g_ rfl) rfl (a_ (K_ 0 sK_ fn_ rfl rfl rfl) rfl (aF_ (sg_ (fJ_ (List.take i l)) x1) rfl rfl X_ (fun _ _ _ => by exact trivial) rfl fun _ => ?_)))))))
    refine a_ (h_ rfl) rfl (e_ (b_ rfl (d_ (a_ (V_ rfl rfl rfl (am_ (by omega) (by omega))) rfl (a_ (g_ rfl) rfl (e_ (t_ rfl ?_)))))))
    exact ah_ ⟨i + 1, hlx1⟩ (by dsimp only; omega) ⟨(aK_ rfl (mW_ hx1).symm), rfl, rfl, rfl, rfl, trivial⟩ X_ (fun _ _ h => h)
theorem si_ (l : List (Int × Int)) (ad : Option Addr) (cap : Nat) (hl : l.length ≤ 1000000) : Tri Tryz.prog 184 #[.slice ad (List.length l) cap] [] [bb_ ad (List.flatMap ivC l)] (fun _ : Unit => .int .i64 (fJ_ l)) (fun _ => []) (fun _ => []) := by
  refine R_ Tryz.func184 rfl rfl Tryz.ntmps184 rfl fun v0 => ?_
  refine f_ (d_ (a_ (h_ rfl) rfl (e_ (b_ rfl (f_ (d_ (a_ (g_ rfl) rfl (Q_ (nL_ l ad cap hl) rfl X_ (fun v _ h => by exact ⟨h.1, trivial⟩) rfl fun _ => ?_))))))))
  refine a_ (h_ rfl) rfl (e_ (b_ rfl (D_ ?_)))
  exact ar_ Tryz.results184 () rfl X_ (fun _ _ _ => trivial)
theorem qk_ (i j : Int × Int) : Fn0 Tryz.prog 143 #[ivV i, ivV j] (.bool (pM_ i j)) := by
  refine R_ Tryz.func143 rfl rfl Tryz.ntmps143 rfl fun v0 => ?_
  refine f_ (d_ (aI_ rfl rfl fun b1 => ?_))
  refine aI_ rfl rfl fun b2 => ?_
  refine a_ (h_ rfl) rfl (e_ (b_ rfl (f_ (d_ (a_ (K_ 1 sK_ fn_ rfl rfl rfl) rfl (a_ (K_ 0 sK_ fn_ rfl rfl rfl) rfl (aW_ Tryz.runUnderlying223 fn_ Tryz.zeroValue175 rfl rfl rfl rfl rfl rfl fun b3 => ?_)))))))
  refine eM_ (List.flatMap ivC [i, j]) i_ rfl ?_
  refine Q_ (si_ [i, j] (some ⟨b3, 0, none⟩) 2 (by simp)) rfl X_ (fun v _ h => by exact ⟨h.1, trivial⟩) rfl fun _ => ?_
  refine z_ (aA_ rfl rfl) rfl fun r1 hr1 => ?_
  refine a_ (g_ rfl) rfl ?_
  cases r1
  · skip
    replace hr1 := ne_of_beq_false hr1
    refine w_ rfl rfl rfl rfl (w_ rfl rfl rfl rfl (w_ rfl rfl rfl rfl (w_ rfl rfl rfl rfl (w_ rfl rfl rfl rfl (a_ (H_ rfl rfl) rfl (a_ (g_ rfl) rfl (w_ rfl rfl rfl rfl (w_ rfl rfl rfl rfl (w_ rfl rfl rfl rfl ?_)))))))))
    refine w_ rfl rfl rfl rfl (w_ rfl rfl rfl rfl (a_ (H_ rfl rfl) rfl (a_ (h_ rfl) rfl (e_ (b_ rfl (D_ ?_))))))
    exact ar_ Tryz.results143 () (G_ rfl (by unfold pM_; simp_all <;> omega)) X_ (fun _ _ _ => trivial)
  · skip
    replace hr1 := eq_of_beq hr1
    refine u_ rfl rfl (a_ (k_ bU_ rfl rfl rfl I_) rfl (u_ rfl rfl (a_ (o_ 0 J_ rfl rfl rfl) rfl (u_ rfl rfl (a_ (k_ bU_ rfl rfl rfl I_) rfl (u_ rfl rfl (a_ (o_ 1 J_ rfl rfl rfl) rfl (u_ rfl rfl (z_ (co_ rfl rfl) rfl fun r2 hr2 => ?_)))))))))
    refine a_ (P_ rfl rfl) rfl (a_ (g_ rfl) rfl ?_)
    cases r2
    · skip
      replace hr2 := of_decide_eq_false hr2
      refine w_ rfl rfl rfl rfl (w_ rfl rfl rfl rfl (w_ rfl rfl rfl rfl (w_ rfl rfl rfl rfl (w_ rfl rfl rfl rfl (a_ (H_ rfl rfl) rfl (a_ (h_ rfl) rfl (e_ (b_ rfl (D_ ?_)))))))))
      exact ar_ Tryz.results143 () (G_ rfl (by unfold pM_; simp_all <;> omega)) X_ (fun _ _ _ => trivial)
    · skip
      replace hr2 := of_decide_eq_true hr2
      refine u_ rfl rfl (a_ (k_ bU_ rfl rfl rfl I_) rfl (u_ rfl rfl (a_ (o_ 1 J_ rfl rfl rfl) rfl (u_ rfl rfl (a_ (k_ bU_ rfl rfl rfl I_) rfl (u_ rfl rfl (a_ (o_ 0 J_ rfl rfl rfl) rfl (u_ rfl rfl (z_ (co_ rfl rfl) rfl fun r3 hr3 => ?_)))))))))
      refine a_ (P_ rfl rfl) rfl (a_ (h_ rfl) rfl (e_ (b_ rfl (D_ ?_))))
      exact ar_ Tryz.results143 () (G_ rfl (by unfold pM_; simp_all <;> omega)) X_ (fun _ _ _ => trivial)
theorem nw_ (a b c d : Int) (ha : -1099511627776 ≤ a ∧ a ≤ b ∧ b ≤ 1099511627776) (hb : -1099511627776 ≤ c ∧ c ≤ d ∧ d ≤ 1099511627776) : Fn0 Tryz.prog 143 #[ivV (a, b), ivV (c, d)] (.bool (decide (c ≤ a ∧ b ≤ d))) := by
  have := qk_ (a, b) (c, d)
  rw [sh_ ha hb] at this
  exact this
theorem iO_ {α : Type} {p : α → Bool} {l : List α} {i : Nat} {x : α} (h : l[i]? = some x) : List.filter p (List.take (i + 1) l) = List.filter p (List.take i l) ++ (if p x then [x] else []) := by
  rw [List.take_add_one, h, Option.toList_some, List.filter_append]
  congr 1
  simp [List.filter_cons]
theorem out_c (B : EngB) (E : Emt Tryz.prog 41) (A : EngA) (pm : List (Ky × Pc)) (x : Ix) (f : Fc) (nw fm : List Fc) (Hs : Hp) (hS : E.St nw fm Hs) (hpl : ∀ k, (lat pm k).length ≤ 1000000000) (hxl : ∀ k, (lat x.above k).length ≤ 1000000000 ∧ (lat x.under k).length ≤ 1000000000) (hyl : ∀ k, (lat x.frm k).length ≤ 1000000000 ∧ (lat x.into k).length ≤ 1000000000 ∧ (lat x.ranges k).length ≤ 1000000000 ∧ (lat x.firms k).length ≤ 1000000000) (hf : -1099511627776 ≤ f.lo ∧ f.lo ≤ f.hi ∧ f.hi ≤ 1099511627776) (hq : ∀ y ∈ lat pm (Ky.mk 9 (Fc.r f) []), -1099511627776 ≤ y.lo ∧ y.lo ≤ y.hi ∧ y.hi ≤ 1099511627776) : Tri Tryz.prog 111 #[zp_ B.g 0, Fc.val f] Hs [gF B E, pF B pm A, aF B x A, uF B x A, oF B x A, iF B x A, rF B x A, sF B x A, E.ef] (fun _ : {H' : Hp // E.St (emits E.stp (py_ pm f) nw) fm H'} => .tuple #[]) (fun y => y.1) (fun _ => []) := by
 refine R_ Tryz.func111 rfl rfl Tryz.ntmps111 rfl fun v0 => ?_
 refine f_ (d_ (aI_ rfl rfl fun b1 => ?_))
 refine e_ (b_ rfl (f_ ?_))
 refine aE_ (by kernel_rfl) ?_
 refine ab_ 0 [0, 1, 2, 3, 4, 5, 6, 7, 8, 9] (by kernel_rfl) (fun _ a b => ⟨a, b⟩) (j_ rfl (g_ rfl) rfl (j_ rfl (ag_ rfl) rfl (j_ rfl (k_ F_ rfl rfl rfl do_) rfl (j_ rfl (Z_ dZ_ rfl (fun v _ h => by exact h.1) rfl) rfl (j_ rfl (k_ s_ rfl rfl rfl p_) rfl (j_ rfl (o_ 0 v_ rfl rfl rfl) rfl (j_ rfl (ao_ en_ rfl rfl) rfl (j_ rfl (ck_ (k := (Ky.mk 9 (Fc.r f) [])) (adr := A.p) fV_ cb_ cM_ rfl rfl (fun v _ h => by exact h.2.1)) rfl (j_ rfl (at_ T_ rfl) rfl ?_)))))))))
 refine j_ rfl (g_ rfl) rfl (aa_ (Y_ (by kernel_rfl) (b_ rfl (S_ ?_))))
 refine aV_ (ι := {y : Nat × Hp // y.1 ≤ List.length (lat pm (Ky.mk 9 (Fc.r f) [])) ∧ E.St (emits E.stp (List.map (fun y => ax_ (Fc.a f) (Pc.c y)) (List.filter (fun y => decide (Pc.lo y ≤ Fc.lo f ∧ Fc.hi f ≤ Pc.hi y)) (List.take y.1 (lat pm (Ky.mk 9 (Fc.r f) []))))) nw) fm y.2}) (fun y => [(0, zp_ B.g 0), (3, zp_ b1 0), (13, .slice (Prod.fst (A.p (Ky.mk 9 (Fc.r f) []))) (List.length (lat pm (Ky.mk 9 (Fc.r f) []))) (Prod.snd (A.p (Ky.mk 9 (Fc.r f) [])))), (14, .int .i64 (List.length (lat pm (Ky.mk 9 (Fc.r f) [])) : Int)), (15, .int .i64 (y.1.1 : Int))]) (fun y => ((b1, .cells (Fc.cells f).toArray 41 (0, 0)) :: y.1.2)) (fun y => [gF B E, pF B pm A, aF B x A, uF B x A, oF B x A, iF B x A, rF B x A, sF B x A, E.ef]) (fun y => List.length (lat pm (Ky.mk 9 (Fc.r f) [])) - y.1.1) ⟨((0 : Nat), Hs), by simp, by exact hS⟩ ⟨rfl, rfl, rfl, rfl, rfl, trivial⟩ (l_ i_ be_) (fun _ _ h => h) ?_
 rintro ⟨⟨i, Hs_i⟩, hi_i, hS_i⟩
 dsimp only at hi_i hS_i ⊢
 have hb_i := hpl (Ky.mk 9 (Fc.r f) [])
 refine f_ (d_ (z_ (aC_ rfl rfl) rfl fun r1 hr1 => ?_))
 refine e_ (b_ rfl (f_ ?_))
 cases r1
 ·
  replace hr1 := of_decide_eq_false hr1
  refine r_ rfl (ay_ rfl (aQ_ rfl ?_))
  exact ch_ Tryz.results111 ⟨Hs_i, by unfold py_; rw [List.take_of_length_le (by omega)] at hS_i; exact hS_i⟩ rfl ad_ (fun _ _ _ => trivial)
 ·
  replace hr1 := of_decide_eq_true hr1
  have hlx1 : i < List.length (lat pm (Ky.mk 9 (Fc.r f) [])) := by omega
  obtain ⟨x1, hx1⟩ : ∃ e0, (lat pm (Ky.mk 9 (Fc.r f) []))[i]? = some e0 := ⟨_, List.getElem?_eq_getElem hlx1⟩
  have hmx1 : x1 ∈ (lat pm (Ky.mk 9 (Fc.r f) [])) := List.mem_of_getElem? hx1
  refine n_ rfl (B_ (b_ rfl (f_ (S_ (f_ (d_ (a_ (aj_ T_ W_ rfl rfl (fun v _ h => aO_ (n := 10) Pc.cells_len (by decide) (by exact (bJ_ h.2.1 (Ky.mk 9 (Fc.r f) []))) hx1) (by omega) (by first | omega | (simp; done))) rfl (a_ (aG_ (ad := (Prod.fst (A.p (Ky.mk 9 (Fc.r f) [])))) (us := Pc.cells x1) bs_ W_ rfl (fun v _ h => by exact (bJ_ h.2.1 (Ky.mk 9 (Fc.r f) []))) (Pc.cells_len _) (an_ Pc.cells_len hx1)) rfl (al_ as_ rfl fun b2 => ?_)))))))))
  refine ae_ 0 W_ rfl rfl rfl rfl rfl rfl (e_ (b_ rfl (f_ (d_ (a_ (k_ s_ rfl rfl rfl I_) rfl (a_ (o_ 1 J_ rfl rfl rfl) rfl (a_ (k_ s_ rfl rfl rfl I_) rfl (a_ (o_ 1 J_ rfl rfl rfl) rfl (a_ (ao_ oj_ rfl rfl) rfl ?_)))))))))
  refine a_ (k_ C_ rfl rfl rfl I_) rfl (a_ (o_ 0 J_ rfl rfl rfl) rfl (a_ (k_ C_ rfl rfl rfl I_) rfl (a_ (o_ 0 J_ rfl rfl rfl) rfl (a_ (ao_ oj_ rfl rfl) rfl (au_ (nw_ (Fc.lo f) (Fc.hi f) (Pc.lo x1) (Pc.hi x1) hf (hq x1 hmx1)) rfl X_ (fun _ _ _ => by exact trivial) rfl fun r2 hr2 => ?_)))))
  refine e_ (b_ rfl ?_)
  cases r2
  ·
   replace hr2 := of_decide_eq_false hr2
   refine r_ rfl (B_ (b_ rfl (d_ (a_ (V_ rfl rfl rfl (am_ (by omega) (by omega))) rfl (a_ (g_ rfl) rfl (e_ (t_ rfl ?_)))))))
   exact ah_ ⟨(i + 1, Hs_i), hlx1, (by rw [iO_ hx1]; first | (rw [if_pos (decide_eq_true (by assumption)), List.map_append, aU_]; exact hS_i) | (rw [if_neg (by rw [decide_eq_false (by assumption)]; decide), List.append_nil]; exact hS_i))⟩ (by dsimp only; omega) ⟨rfl, rfl, rfl, rfl, rfl, trivial⟩ (l_ (c_ i_) ad_) (fun _ _ h => h)
  ·
   replace hr2 := of_decide_eq_true hr2
   refine n_ rfl ?_
   refine aD_ ((b2, .cells (Pc.cells x1).toArray 47 (0, 0)) :: ((b1, .cells (Fc.cells f).toArray 41 (0, 0)) :: [])) (by kernel_rfl) ?_
   refine ab_ 2 [0, 1, 2, 3, 4, 5, 6, 7] (by kernel_rfl) (fun _ a b => ⟨Vw.sat.sub (a.perm (l_ i_ i_)), b⟩) (j_ rfl (g_ rfl) rfl (j_ rfl (ag_ rfl) rfl (j_ rfl (k_ F_ rfl rfl rfl aR_) rfl (j_ rfl (Z_ bj_ rfl (fun v _ h => by exact h.1) rfl) rfl (j_ rfl (k_ s_ rfl rfl rfl p_) rfl (j_ rfl (o_ 1 v_ rfl rfl rfl) rfl (j_ rfl (k_ C_ rfl rfl rfl p_) rfl (j_ rfl (o_ 0 v_ rfl rfl rfl) rfl (aa_ ?_)))))))))
   refine N_ 8 rfl (by kernel_rfl) (Q_ (eX_ (Fc.a f) (Pc.c x1)) rfl X_ (fun _ _ _ => by exact trivial) rfl fun _ => ?_)
   refine e_ (t_ rfl (E_ (fun _ a b => ⟨Vw.sat.sub (a.perm (l_ i_ i_)), b⟩) (N_ 9 rfl (by kernel_rfl) (aF_ (first := []) (cap := E.caps) (E.emit (ax_ (Fc.a f) (Pc.c x1)) (emits E.stp (List.map (fun y => ax_ (Fc.a f) (Pc.c y)) (List.filter (fun y => decide (Pc.lo y ≤ Fc.lo f ∧ Fc.hi f ≤ Pc.hi y)) (List.take i (lat pm (Ky.mk 9 (Fc.r f) []))))) nw) fm Hs_i hS_i) rfl rfl (c_ ad_) (fun v _ h => by exact ⟨h.2.2.2.2.2.2.2.2.1, trivial⟩) rfl fun ⟨Hs1, hS1⟩ => ?_))))
   dsimp only
   refine e_ (t_ rfl (E_ (fun _ a b => ⟨Vw.sat.sub (a.perm (l_ (m_ i_) ba_)), b⟩) (Y_ (by kernel_rfl) (b_ rfl (d_ (a_ (V_ rfl rfl rfl (am_ (by omega) (by omega))) rfl (a_ (g_ rfl) rfl (e_ (t_ rfl ?_)))))))))
   exact ah_ ⟨(i + 1, Hs1), hlx1, (by rw [iO_ hx1]; first | (rw [if_pos (decide_eq_true (by assumption)), List.map_append, aU_]; exact hS1) | (rw [if_neg (by rw [decide_eq_false (by assumption)]; decide), List.append_nil]; exact hS1))⟩ (by dsimp only; omega) ⟨rfl, rfl, rfl, rfl, rfl, trivial⟩ (l_ (m_ (c_ i_)) q_) (fun _ _ h => h)
theorem dO_ {f : Fc} {l : List Fc} {i : Nat} {x : Fc} (h : l[i]? = some x) : fz_ f (List.take (i + 1) l) = fz_ f (List.take i l) ++ (if (!cL_ f x && decide (dx_ f x ≠ f ∧ dx_ f x ≠ x)) = true then [dx_ f x] else []) := by
  unfold fz_
  rw [iO_ h, List.map_append]
  congr 1
  split <;> simp
theorem eO_ {α : Type} {p : α → Bool} {l : List α} {i : Nat} {x : α} (h : l[i]? = some x) : List.any (List.take (i + 1) l) p = (List.any (List.take i l) p || p x) := by
  rw [List.take_add_one, h, Option.toList_some, List.any_append]; simp
theorem meet_c (B : EngB) (E : Emt Tryz.prog 41) (A : EngA) (pm : List (Ky × Pc)) (x : Ix) (f : Fc) (nw fm : List Fc) (Hs : Hp) (hS : E.St nw fm Hs) (hpl : ∀ k, (lat pm k).length ≤ 1000000000) (hxl : ∀ k, (lat x.above k).length ≤ 1000000000 ∧ (lat x.under k).length ≤ 1000000000) (hyl : ∀ k, (lat x.frm k).length ≤ 1000000000 ∧ (lat x.into k).length ≤ 1000000000 ∧ (lat x.ranges k).length ≤ 1000000000 ∧ (lat x.firms k).length ≤ 1000000000) : Tri Tryz.prog 110 #[zp_ B.g 0, Fc.val f] Hs [gF B E, pF B pm A, aF B x A, uF B x A, oF B x A, iF B x A, rF B x A, sF B x A, E.ef] (fun _ : {H' : Hp // E.St (emits E.stp (fz_ f (ej_ x f (decide (f ∈ fm))) ++ gB_ f (ej_ x f (decide (f ∈ fm)))) nw) fm H'} => .tuple #[]) (fun y => y.1) (fun _ => []) := by
 refine R_ Tryz.func110 rfl rfl Tryz.ntmps110 rfl fun v0 => ?_
 refine f_ (d_ (aI_ rfl rfl fun b1 => ?_))
 refine e_ (b_ rfl (f_ (d_ (a_ (k_ s_ rfl rfl rfl p_) rfl (a_ (o_ 0 v_ rfl rfl rfl) rfl (a_ (k_ s_ rfl rfl rfl p_) rfl (a_ (o_ 0 v_ rfl rfl rfl) rfl (a_ (ao_ eZ_ rfl rfl) rfl (al_ cA_ rfl fun b2 => ?_)))))))))
 refine ae_ 0 bi_ rfl rfl rfl rfl rfl rfl (e_ (b_ rfl (f_ ?_)))
 refine aE_ (by kernel_rfl) ?_
 refine ab_ 0 [0, 1, 2, 3, 4, 5, 6] (by kernel_rfl) (fun _ a b => ⟨a, b⟩) (j_ rfl (g_ rfl) rfl (j_ rfl (ag_ rfl) rfl (j_ rfl (k_ F_ rfl rfl rfl sJ_) rfl (j_ rfl (Z_ Tryz.isAgg92 rfl (fun v _ h => by exact h.1) rfl) rfl (j_ rfl (K_ 0 dp_ bi_ rfl rfl rfl) rfl (j_ rfl (ck_ (k := ((Fc.a f), (Fc.r f))) (adr := A.s) cO_ qw_ mc_ rfl rfl (fun v _ h => by exact h.2.2.2.2.2.2.2.1)) rfl (j_ rfl (h_ rfl) rfl (aa_ (Y_ (by kernel_rfl) ?_)))))))))
 refine b_ rfl (f_ (f_ ?_))
 refine aE_ (by kernel_rfl) ?_
 refine ab_ 0 [0, 1, 2, 3, 4, 5] (by kernel_rfl) (fun _ a b => ⟨a, b⟩) (j_ rfl (g_ rfl) rfl (j_ rfl (ag_ rfl) rfl (j_ rfl (k_ F_ rfl rfl rfl bv_) rfl (j_ rfl (Z_ bD_ rfl (fun v _ h => by exact h.1) rfl) rfl (j_ rfl (K_ 1 af_ M_ rfl rfl rfl) rfl ?_)))))
 refine cK_ rfl (mf_ (f := f) hS fW_ aS_ bV_ rfl rfl (c_ ad_)) rfl fun r1 hr1 => ?_
 refine aa_ (Y_ (by kernel_rfl) (b_ rfl ?_))
 cases r1
 ·
  replace hr1 := of_decide_eq_false hr1
  refine r_ rfl (B_ (b_ rfl (f_ (d_ (a_ (h_ rfl) rfl (e_ (b_ rfl (f_ (f_ ?_)))))))))
  refine d_ (a_ (g_ rfl) rfl (a_ (at_ az_ rfl) rfl (a_ (g_ rfl) rfl (e_ (b_ rfl (S_ ?_))))))
  refine aV_ (ι := {y : Nat × Hp × Bool // y.1 ≤ List.length (lat x.firms ((Fc.a f), (Fc.r f))) ∧ E.St (emits E.stp (fz_ f (List.take y.1 (lat x.firms ((Fc.a f), (Fc.r f))))) nw) fm y.2.1 ∧ y.2.2 = List.any (List.take y.1 (lat x.firms ((Fc.a f), (Fc.r f)))) (cL_ f)}) (fun y => [(0, zp_ B.g 0), (3, zp_ b1 0), (6, .bool y.1.2.2), (35, .slice (Prod.fst (A.s ((Fc.a f), (Fc.r f)))) (List.length (lat x.firms ((Fc.a f), (Fc.r f)))) (Prod.snd (A.s ((Fc.a f), (Fc.r f))))), (36, .int .i64 (List.length (lat x.firms ((Fc.a f), (Fc.r f))) : Int)), (37, .int .i64 (y.1.1 : Int))]) (fun y => ((b1, .cells (Fc.cells f).toArray 41 (0, 0)) :: y.1.2.1)) (fun y => [gF B E, pF B pm A, aF B x A, uF B x A, oF B x A, iF B x A, rF B x A, sF B x A, E.ef]) (fun y => List.length (lat x.firms ((Fc.a f), (Fc.r f))) - y.1.1) ⟨((0 : Nat), Hs, false), by simp, by exact hS, by simp⟩ ⟨rfl, rfl, rfl, rfl, rfl, rfl, trivial⟩ (l_ (c_ i_) ad_) (fun _ _ h => h) ?_
  rintro ⟨⟨i, Hs_i, e⟩, hi_i, hS_i, he⟩
  dsimp only at hi_i hS_i he ⊢
  have hb_i := (hyl ((Fc.a f), (Fc.r f))).2.2.2
  refine f_ (d_ (z_ (aC_ rfl rfl) rfl fun r2 hr2 => ?_))
  refine e_ (b_ rfl (f_ ?_))
  cases r2
  ·
   replace hr2 := of_decide_eq_false hr2
   refine r_ rfl (ay_ rfl (b_ rfl (f_ (d_ (a_ (g_ rfl) rfl (e_ (b_ rfl ?_)))))))
   cases e
   ·
    refine r_ rfl (B_ (aQ_ rfl ?_))
    exact ch_ Tryz.results110 ⟨Hs_i, by have hL : (ej_ x f (decide (f ∈ fm))) = (lat x.firms ((Fc.a f), (Fc.r f))) := (by unfold ej_; rw [decide_eq_false (by assumption)] <;> rfl); rw [hL, aU_]; have e9 : List.take i (lat x.firms ((Fc.a f), (Fc.r f))) = (lat x.firms ((Fc.a f), (Fc.r f))) := List.take_of_length_le (by omega); rw [e9] at he hS_i; unfold gB_; rw [if_neg (by rw [← he]; decide)]; exact hS_i⟩ rfl ad_ (fun _ _ _ => trivial)
   ·
    refine n_ rfl ?_
    refine aD_ ((b1, .cells (Fc.cells f).toArray 41 (0, 0)) :: []) (by kernel_rfl) ?_
    refine ab_ 2 [0, 1, 2, 3, 4, 5] (by kernel_rfl) (fun _ a b => ⟨Vw.sat.sub (a.perm i_), b⟩) (j_ rfl (g_ rfl) rfl (j_ rfl (ag_ rfl) rfl (j_ rfl (k_ F_ rfl rfl rfl aR_) rfl (j_ rfl (Z_ bj_ rfl (fun v _ h => by exact h.1) rfl) rfl (j_ rfl (k_ s_ rfl rfl rfl p_) rfl (j_ rfl (o_ 0 v_ rfl rfl rfl) rfl (aa_ (N_ 6 rfl (by kernel_rfl) (Q_ (eX_ (Fc.a f) [33]) rfl X_ (fun _ _ _ => by exact trivial) rfl fun _ => ?_)))))))))
    refine e_ (t_ rfl (E_ (fun _ a b => ⟨Vw.sat.sub (a.perm i_), b⟩) (N_ 7 rfl (by kernel_rfl) (aF_ (first := []) (cap := E.caps) (E.emit (ax_ (Fc.a f) [33]) (emits E.stp (fz_ f (List.take i (lat x.firms ((Fc.a f), (Fc.r f))))) nw) fm Hs_i hS_i) rfl rfl ad_ (fun v _ h => by exact ⟨h.2.2.2.2.2.2.2.2.1, trivial⟩) rfl fun ⟨Hs1, hS1⟩ => ?_))))
    dsimp only
    refine e_ (t_ rfl (E_ (fun _ a b => ⟨Vw.sat.sub (a.perm ba_), b⟩) (Y_ (by kernel_rfl) (aQ_ rfl ?_))))
    exact ch_ Tryz.results110 ⟨Hs1, by have hL : (ej_ x f (decide (f ∈ fm))) = (lat x.firms ((Fc.a f), (Fc.r f))) := (by unfold ej_; rw [decide_eq_false (by assumption)] <;> rfl); rw [hL, aU_]; have e9 : List.take i (lat x.firms ((Fc.a f), (Fc.r f))) = (lat x.firms ((Fc.a f), (Fc.r f))) := List.take_of_length_le (by omega); rw [e9] at he hS1; unfold gB_; rw [if_pos he.symm]; exact hS1⟩ rfl q_ (fun _ _ _ => trivial)
  ·
   replace hr2 := of_decide_eq_true hr2
   have hlx1 : i < List.length (lat x.firms ((Fc.a f), (Fc.r f))) := by omega
   obtain ⟨x1, hx1⟩ : ∃ e0, (lat x.firms ((Fc.a f), (Fc.r f)))[i]? = some e0 := ⟨_, List.getElem?_eq_getElem hlx1⟩
   have hmx1 : x1 ∈ (lat x.firms ((Fc.a f), (Fc.r f))) := List.mem_of_getElem? hx1
   refine n_ rfl (B_ (b_ rfl (f_ (S_ (f_ (d_ (a_ (aj_ az_ M_ rfl rfl (fun v _ h => aO_ (n := 6) Fc.cells_len (by decide) (by exact (bJ_ h.2.2.2.2.2.2.2.1 ((Fc.a f), (Fc.r f)))) hx1) (by omega) (by first | omega | (simp; done))) rfl (a_ (aG_ (ad := (Prod.fst (A.s ((Fc.a f), (Fc.r f))))) (us := Fc.cells x1) af_ M_ rfl (fun v _ h => by exact (bJ_ h.2.2.2.2.2.2.2.1 ((Fc.a f), (Fc.r f)))) (Fc.cells_len _) (an_ Fc.cells_len hx1)) rfl (al_ aT_ rfl fun b3 => ?_)))))))))
   refine ae_ 0 M_ rfl rfl rfl rfl rfl rfl (e_ (b_ rfl (f_ ?_)))
   refine aE_ (by kernel_rfl) ?_
   refine ab_ 0 [0, 1, 2, 3, 4, 5, 6, 7, 8, 9, 10, 11] (by kernel_rfl) (fun _ a b => ⟨a, b⟩) (j_ rfl (k_ s_ rfl rfl rfl I_) rfl (j_ rfl (o_ 1 J_ rfl rfl rfl) rfl (j_ rfl (k_ s_ rfl rfl rfl I_) rfl (j_ rfl (o_ 0 J_ rfl rfl rfl) rfl (j_ rfl (jx_ rfl rfl) rfl (j_ rfl (k_ s_ rfl rfl rfl I_) rfl (j_ rfl (o_ 1 J_ rfl rfl rfl) rfl (j_ rfl (k_ s_ rfl rfl rfl I_) rfl (j_ rfl (o_ 0 J_ rfl rfl rfl) rfl ?_)))))))))
   refine j_ rfl (hT_ rfl rfl) rfl (j_ rfl (h_ rfl) rfl (j_ rfl (h_ rfl) rfl (aa_ (Y_ (by kernel_rfl) (b_ rfl (f_ (d_ (a_ (g_ rfl) rfl (a_ (g_ rfl) rfl ?_)))))))))
   refine z_ (bS_ rfl rfl) rfl fun r3 hr3 => ?_
   refine e_ (b_ rfl ?_)
   cases r3
   ·
    replace hr3 := of_decide_eq_false hr3
    refine r_ rfl (f_ (d_ (a_ (k_ s_ rfl rfl rfl p_) rfl (a_ (o_ 1 v_ rfl rfl rfl) rfl (a_ (k_ s_ rfl rfl rfl p_) rfl (a_ (o_ 1 v_ rfl rfl rfl) rfl (a_ (g_ rfl) rfl (a_ (g_ rfl) rfl (Q_ (iz_ (Fc.a f) (Fc.r f) (max (Fc.lo f) (Fc.lo x1)) (min (Fc.hi f) (Fc.hi x1))) rfl X_ (fun _ _ _ => by exact trivial) rfl fun _ => ?_)))))))))
    refine al_ aT_ rfl fun b4 => ?_
    refine ae_ 0 M_ rfl rfl rfl rfl rfl rfl (e_ (b_ rfl (f_ (d_ (a_ (K_ 0 af_ M_ rfl rfl rfl) rfl (a_ (K_ 2 af_ M_ rfl rfl rfl) rfl (z_ (hg_ (p := (aJ_ (Fc.a f) (Fc.r f) (max (Fc.lo f) (Fc.lo x1)) (min (Fc.hi f) (Fc.hi x1)))) (q := f) rfl rfl) rfl fun r4 hr4 => ?_)))))))
    refine a_ (g_ rfl) rfl ?_
    cases r4
    ·
     replace hr4 := of_decide_eq_false hr4
     refine w_ rfl rfl rfl rfl (w_ rfl rfl rfl rfl (w_ rfl rfl rfl rfl (a_ (H_ rfl rfl) rfl (e_ (b_ rfl (r_ rfl (B_ (b_ rfl (d_ ?_)))))))))
     refine a_ (V_ rfl rfl rfl (am_ (by omega) (by omega))) rfl (a_ (g_ rfl) rfl (e_ (t_ rfl ?_)))
     exact ah_ ⟨(i + 1, Hs_i, e), hlx1, (by rw [dO_ hx1]; first | (rw [if_pos (by rw [Bool.and_eq_true]; exact ⟨by simp only [cL_]; rw [decide_eq_false (by omega)]; rfl, decide_eq_true ⟨by assumption, by assumption⟩⟩), aU_]; exact hS_i) | (rw [if_neg (by rw [Bool.and_eq_true]; intro q; first | exact absurd (of_decide_eq_true q.2).1 (by assumption) | exact absurd (of_decide_eq_true q.2).2 (by assumption) | (have q1 := q.1; simp only [cL_] at q1; rw [decide_eq_true (by omega)] at q1; cases q1)), List.append_nil]; exact hS_i)), by rw [eO_ hx1, ← he]; simp only [cL_]; rw [decide_eq_false (by omega)]; simp⟩ (by dsimp only; omega) ⟨rfl, rfl, rfl, rfl, rfl, rfl, trivial⟩ (l_ (c_ (c_ i_)) (c_ ad_)) (fun _ _ h => h)
    ·
     replace hr4 := of_decide_eq_true hr4
     refine u_ rfl rfl (a_ (K_ 0 af_ M_ rfl rfl rfl) rfl (u_ rfl rfl (a_ (K_ 1 af_ M_ rfl rfl rfl) rfl (u_ rfl rfl (z_ (hg_ (p := (aJ_ (Fc.a f) (Fc.r f) (max (Fc.lo f) (Fc.lo x1)) (min (Fc.hi f) (Fc.hi x1)))) (q := x1) rfl rfl) rfl fun r5 hr5 => ?_)))))
     refine a_ (P_ rfl rfl) rfl (e_ (b_ rfl ?_))
     cases r5
     ·
      replace hr5 := of_decide_eq_false hr5
      refine r_ rfl (B_ (b_ rfl (d_ (a_ (V_ rfl rfl rfl (am_ (by omega) (by omega))) rfl (a_ (g_ rfl) rfl (e_ (t_ rfl ?_)))))))
      exact ah_ ⟨(i + 1, Hs_i, e), hlx1, (by rw [dO_ hx1]; first | (rw [if_pos (by rw [Bool.and_eq_true]; exact ⟨by simp only [cL_]; rw [decide_eq_false (by omega)]; rfl, decide_eq_true ⟨by assumption, by assumption⟩⟩), aU_]; exact hS_i) | (rw [if_neg (by rw [Bool.and_eq_true]; intro q; first | exact absurd (of_decide_eq_true q.2).1 (by assumption) | exact absurd (of_decide_eq_true q.2).2 (by assumption) | (have q1 := q.1; simp only [cL_] at q1; rw [decide_eq_true (by omega)] at q1; cases q1)), List.append_nil]; exact hS_i)), by rw [eO_ hx1, ← he]; simp only [cL_]; rw [decide_eq_false (by omega)]; simp⟩ (by dsimp only; omega) ⟨rfl, rfl, rfl, rfl, rfl, rfl, trivial⟩ (l_ (c_ (c_ i_)) (c_ ad_)) (fun _ _ h => h)
     ·
      replace hr5 := of_decide_eq_true hr5
      refine n_ rfl ?_
      refine aD_ ((b4, .cells #[.int .i64 (Fc.kind (aJ_ (Fc.a f) (Fc.r f) (max (Fc.lo f) (Fc.lo x1)) (min (Fc.hi f) (Fc.hi x1)))), str (Fc.a (aJ_ (Fc.a f) (Fc.r f) (max (Fc.lo f) (Fc.lo x1)) (min (Fc.hi f) (Fc.hi x1)))), str (Fc.b (aJ_ (Fc.a f) (Fc.r f) (max (Fc.lo f) (Fc.lo x1)) (min (Fc.hi f) (Fc.hi x1)))), str (Fc.r (aJ_ (Fc.a f) (Fc.r f) (max (Fc.lo f) (Fc.lo x1)) (min (Fc.hi f) (Fc.hi x1)))), .int .i64 (Fc.lo (aJ_ (Fc.a f) (Fc.r f) (max (Fc.lo f) (Fc.lo x1)) (min (Fc.hi f) (Fc.hi x1)))), .int .i64 (Fc.hi (aJ_ (Fc.a f) (Fc.r f) (max (Fc.lo f) (Fc.lo x1)) (min (Fc.hi f) (Fc.hi x1))))] 41 (0, 0)) :: ((b3, .cells (Fc.cells x1).toArray 41 (0, 0)) :: ((b1, .cells (Fc.cells f).toArray 41 (0, 0)) :: []))) (by kernel_rfl) ?_
      refine ab_ 1 [0, 1, 2, 3, 4] (by kernel_rfl) (fun _ a b => ⟨Vw.sat.sub (a.perm (l_ i_ (l_ i_ i_))), b⟩) (j_ rfl (g_ rfl) rfl (j_ rfl (ag_ rfl) rfl (j_ rfl (k_ F_ rfl rfl rfl aR_) rfl (j_ rfl (Z_ bj_ rfl (fun v _ h => by exact h.1) rfl) rfl (j_ rfl (K_ 0 af_ M_ rfl rfl rfl) rfl (aa_ (N_ 5 rfl (by kernel_rfl) (aF_ (first := []) (cap := E.caps) (E.emit (aJ_ (Fc.a f) (Fc.r f) (max (Fc.lo f) (Fc.lo x1)) (min (Fc.hi f) (Fc.hi x1))) (emits E.stp (fz_ f (List.take i (lat x.firms ((Fc.a f), (Fc.r f))))) nw) fm Hs_i hS_i) rfl rfl (c_ (c_ ad_)) (fun v _ h => by exact ⟨h.2.2.2.2.2.2.2.2.1, trivial⟩) rfl fun ⟨Hs2, hS2⟩ => ?_))))))))
      dsimp only
      refine e_ (t_ rfl (E_ (fun _ a b => ⟨Vw.sat.sub (a.perm (l_ (m_ i_) (l_ (m_ i_) ba_))), b⟩) (Y_ (by kernel_rfl) (b_ rfl (d_ (a_ (V_ rfl rfl rfl (am_ (by omega) (by omega))) rfl (a_ (g_ rfl) rfl (e_ (t_ rfl ?_)))))))))
      exact ah_ ⟨(i + 1, Hs2, e), hlx1, (by rw [dO_ hx1]; first | (rw [if_pos (by rw [Bool.and_eq_true]; exact ⟨by simp only [cL_]; rw [decide_eq_false (by omega)]; rfl, decide_eq_true ⟨by assumption, by assumption⟩⟩), aU_]; exact hS2) | (rw [if_neg (by rw [Bool.and_eq_true]; intro q; first | exact absurd (of_decide_eq_true q.2).1 (by assumption) | exact absurd (of_decide_eq_true q.2).2 (by assumption) | (have q1 := q.1; simp only [cL_] at q1; rw [decide_eq_true (by omega)] at q1; cases q1)), List.append_nil]; exact hS2)), by rw [eO_ hx1, ← he]; simp only [cL_]; rw [decide_eq_false (by omega)]; simp⟩ (by dsimp only; omega) ⟨rfl, rfl, rfl, rfl, rfl, rfl, trivial⟩ (l_ (m_ (c_ (c_ i_))) q_) (fun _ _ h => h)
   ·
    replace hr3 := of_decide_eq_true hr3
    refine n_ rfl (d_ (a_ (h_ rfl) rfl (e_ (b_ rfl (d_ (a_ (V_ rfl rfl rfl (am_ (by omega) (by omega))) rfl (a_ (g_ rfl) rfl (e_ (t_ rfl ?_)))))))))
    exact ah_ ⟨(i + 1, Hs_i, true), hlx1, (by rw [dO_ hx1]; first | (rw [if_pos (by rw [Bool.and_eq_true]; exact ⟨by simp only [cL_]; rw [decide_eq_false (by omega)]; rfl, decide_eq_true ⟨by assumption, by assumption⟩⟩), aU_]; exact hS_i) | (rw [if_neg (by rw [Bool.and_eq_true]; intro q; first | exact absurd (of_decide_eq_true q.2).1 (by assumption) | exact absurd (of_decide_eq_true q.2).2 (by assumption) | (have q1 := q.1; simp only [cL_] at q1; rw [decide_eq_true (by omega)] at q1; cases q1)), List.append_nil]; exact hS_i)), by rw [eO_ hx1, ← he]; simp only [cL_]; rw [decide_eq_true (by omega)]; simp⟩ (by dsimp only; omega) ⟨rfl, rfl, rfl, rfl, rfl, rfl, trivial⟩ (l_ (c_ i_) ad_) (fun _ _ h => h)
 ·
  replace hr1 := of_decide_eq_true hr1
  refine n_ rfl ?_
  refine aE_ (by kernel_rfl) ?_
  refine ab_ 0 [0, 1, 2, 3, 4, 5, 6] (by kernel_rfl) (fun _ a b => ⟨a, b⟩) (j_ rfl (g_ rfl) rfl (j_ rfl (ag_ rfl) rfl (j_ rfl (k_ F_ rfl rfl rfl sJ_) rfl (j_ rfl (Z_ Tryz.isAgg92 rfl (fun v _ h => by exact h.1) rfl) rfl (j_ rfl (K_ 0 dp_ bi_ rfl rfl rfl) rfl (j_ rfl (ck_ (k := ((Fc.a f), (Fc.r f))) (adr := A.r) cO_ qw_ mc_ rfl rfl (fun v _ h => by exact h.2.2.2.2.2.2.1)) rfl (j_ rfl (h_ rfl) rfl (aa_ (Y_ (by kernel_rfl) ?_)))))))))
  refine b_ rfl (f_ (d_ (a_ (h_ rfl) rfl (e_ (b_ rfl (f_ (f_ (d_ (a_ (g_ rfl) rfl ?_)))))))))
  refine a_ (at_ az_ rfl) rfl (a_ (g_ rfl) rfl (e_ (b_ rfl (S_ ?_))))
  refine aV_ (ι := {y : Nat × Hp × Bool // y.1 ≤ List.length (lat x.ranges ((Fc.a f), (Fc.r f))) ∧ E.St (emits E.stp (fz_ f (List.take y.1 (lat x.ranges ((Fc.a f), (Fc.r f))))) nw) fm y.2.1 ∧ y.2.2 = List.any (List.take y.1 (lat x.ranges ((Fc.a f), (Fc.r f)))) (cL_ f)}) (fun y => [(0, zp_ B.g 0), (3, zp_ b1 0), (6, .bool y.1.2.2), (35, .slice (Prod.fst (A.r ((Fc.a f), (Fc.r f)))) (List.length (lat x.ranges ((Fc.a f), (Fc.r f)))) (Prod.snd (A.r ((Fc.a f), (Fc.r f))))), (36, .int .i64 (List.length (lat x.ranges ((Fc.a f), (Fc.r f))) : Int)), (37, .int .i64 (y.1.1 : Int))]) (fun y => ((b1, .cells (Fc.cells f).toArray 41 (0, 0)) :: y.1.2.1)) (fun y => [gF B E, pF B pm A, aF B x A, uF B x A, oF B x A, iF B x A, rF B x A, sF B x A, E.ef]) (fun y => List.length (lat x.ranges ((Fc.a f), (Fc.r f))) - y.1.1) ⟨((0 : Nat), Hs, false), by simp, by exact hS, by simp⟩ ⟨rfl, rfl, rfl, rfl, rfl, rfl, trivial⟩ (l_ (c_ i_) ad_) (fun _ _ h => h) ?_
  rintro ⟨⟨i, Hs_i, e⟩, hi_i, hS_i, he⟩
  dsimp only at hi_i hS_i he ⊢
  have hb_i := (hyl ((Fc.a f), (Fc.r f))).2.2.1
  refine f_ (d_ (z_ (aC_ rfl rfl) rfl fun r6 hr6 => ?_))
  refine e_ (b_ rfl (f_ ?_))
  cases r6
  ·
   replace hr6 := of_decide_eq_false hr6
   refine r_ rfl (ay_ rfl (b_ rfl (f_ (d_ (a_ (g_ rfl) rfl (e_ (b_ rfl ?_)))))))
   cases e
   ·
    refine r_ rfl (B_ (aQ_ rfl ?_))
    exact ch_ Tryz.results110 ⟨Hs_i, by have hL : (ej_ x f (decide (f ∈ fm))) = (lat x.ranges ((Fc.a f), (Fc.r f))) := (by unfold ej_; rw [decide_eq_true (by assumption)] <;> rfl); rw [hL, aU_]; have e9 : List.take i (lat x.ranges ((Fc.a f), (Fc.r f))) = (lat x.ranges ((Fc.a f), (Fc.r f))) := List.take_of_length_le (by omega); rw [e9] at he hS_i; unfold gB_; rw [if_neg (by rw [← he]; decide)]; exact hS_i⟩ rfl ad_ (fun _ _ _ => trivial)
   ·
    refine n_ rfl ?_
    refine aD_ ((b1, .cells (Fc.cells f).toArray 41 (0, 0)) :: []) (by kernel_rfl) ?_
    refine ab_ 2 [0, 1, 2, 3, 4, 5] (by kernel_rfl) (fun _ a b => ⟨Vw.sat.sub (a.perm i_), b⟩) (j_ rfl (g_ rfl) rfl (j_ rfl (ag_ rfl) rfl (j_ rfl (k_ F_ rfl rfl rfl aR_) rfl (j_ rfl (Z_ bj_ rfl (fun v _ h => by exact h.1) rfl) rfl (j_ rfl (k_ s_ rfl rfl rfl p_) rfl (j_ rfl (o_ 0 v_ rfl rfl rfl) rfl (aa_ (N_ 6 rfl (by kernel_rfl) (Q_ (eX_ (Fc.a f) [33]) rfl X_ (fun _ _ _ => by exact trivial) rfl fun _ => ?_)))))))))
    refine e_ (t_ rfl (E_ (fun _ a b => ⟨Vw.sat.sub (a.perm i_), b⟩) (N_ 7 rfl (by kernel_rfl) (aF_ (first := []) (cap := E.caps) (E.emit (ax_ (Fc.a f) [33]) (emits E.stp (fz_ f (List.take i (lat x.ranges ((Fc.a f), (Fc.r f))))) nw) fm Hs_i hS_i) rfl rfl ad_ (fun v _ h => by exact ⟨h.2.2.2.2.2.2.2.2.1, trivial⟩) rfl fun ⟨Hs3, hS3⟩ => ?_))))
    dsimp only
    refine e_ (t_ rfl (E_ (fun _ a b => ⟨Vw.sat.sub (a.perm ba_), b⟩) (Y_ (by kernel_rfl) (aQ_ rfl ?_))))
    exact ch_ Tryz.results110 ⟨Hs3, by have hL : (ej_ x f (decide (f ∈ fm))) = (lat x.ranges ((Fc.a f), (Fc.r f))) := (by unfold ej_; rw [decide_eq_true (by assumption)] <;> rfl); rw [hL, aU_]; have e9 : List.take i (lat x.ranges ((Fc.a f), (Fc.r f))) = (lat x.ranges ((Fc.a f), (Fc.r f))) := List.take_of_length_le (by omega); rw [e9] at he hS3; unfold gB_; rw [if_pos he.symm]; exact hS3⟩ rfl q_ (fun _ _ _ => trivial)
  ·
   replace hr6 := of_decide_eq_true hr6
   have hlx1 : i < List.length (lat x.ranges ((Fc.a f), (Fc.r f))) := by omega
   obtain ⟨x1, hx1⟩ : ∃ e0, (lat x.ranges ((Fc.a f), (Fc.r f)))[i]? = some e0 := ⟨_, List.getElem?_eq_getElem hlx1⟩
   have hmx1 : x1 ∈ (lat x.ranges ((Fc.a f), (Fc.r f))) := List.mem_of_getElem? hx1
   refine n_ rfl (B_ (b_ rfl (f_ (S_ (f_ (d_ (a_ (aj_ az_ M_ rfl rfl (fun v _ h => aO_ (n := 6) Fc.cells_len (by decide) (by exact (bJ_ h.2.2.2.2.2.2.1 ((Fc.a f), (Fc.r f)))) hx1) (by omega) (by first | omega | (simp; done))) rfl (a_ (aG_ (ad := (Prod.fst (A.r ((Fc.a f), (Fc.r f))))) (us := Fc.cells x1) af_ M_ rfl (fun v _ h => by exact (bJ_ h.2.2.2.2.2.2.1 ((Fc.a f), (Fc.r f)))) (Fc.cells_len _) (an_ Fc.cells_len hx1)) rfl (al_ aT_ rfl fun b5 => ?_)))))))))
   refine ae_ 0 M_ rfl rfl rfl rfl rfl rfl (e_ (b_ rfl (f_ ?_)))
   refine aE_ (by kernel_rfl) ?_
   refine ab_ 0 [0, 1, 2, 3, 4, 5, 6, 7, 8, 9, 10, 11] (by kernel_rfl) (fun _ a b => ⟨a, b⟩) (j_ rfl (k_ s_ rfl rfl rfl I_) rfl (j_ rfl (o_ 1 J_ rfl rfl rfl) rfl (j_ rfl (k_ s_ rfl rfl rfl I_) rfl (j_ rfl (o_ 0 J_ rfl rfl rfl) rfl (j_ rfl (jx_ rfl rfl) rfl (j_ rfl (k_ s_ rfl rfl rfl I_) rfl (j_ rfl (o_ 1 J_ rfl rfl rfl) rfl (j_ rfl (k_ s_ rfl rfl rfl I_) rfl (j_ rfl (o_ 0 J_ rfl rfl rfl) rfl ?_)))))))))
   refine j_ rfl (hT_ rfl rfl) rfl (j_ rfl (h_ rfl) rfl (j_ rfl (h_ rfl) rfl (aa_ (Y_ (by kernel_rfl) (b_ rfl (f_ (d_ (a_ (g_ rfl) rfl (a_ (g_ rfl) rfl ?_)))))))))
   refine z_ (bS_ rfl rfl) rfl fun r7 hr7 => ?_
   refine e_ (b_ rfl ?_)
   cases r7
   ·
    replace hr7 := of_decide_eq_false hr7
    refine r_ rfl (f_ (d_ (a_ (k_ s_ rfl rfl rfl p_) rfl (a_ (o_ 1 v_ rfl rfl rfl) rfl (a_ (k_ s_ rfl rfl rfl p_) rfl (a_ (o_ 1 v_ rfl rfl rfl) rfl (a_ (g_ rfl) rfl (a_ (g_ rfl) rfl (Q_ (iz_ (Fc.a f) (Fc.r f) (max (Fc.lo f) (Fc.lo x1)) (min (Fc.hi f) (Fc.hi x1))) rfl X_ (fun _ _ _ => by exact trivial) rfl fun _ => ?_)))))))))
    refine al_ aT_ rfl fun b6 => ?_
    refine ae_ 0 M_ rfl rfl rfl rfl rfl rfl (e_ (b_ rfl (f_ (d_ (a_ (K_ 0 af_ M_ rfl rfl rfl) rfl (a_ (K_ 2 af_ M_ rfl rfl rfl) rfl (z_ (hg_ (p := (aJ_ (Fc.a f) (Fc.r f) (max (Fc.lo f) (Fc.lo x1)) (min (Fc.hi f) (Fc.hi x1)))) (q := f) rfl rfl) rfl fun r8 hr8 => ?_)))))))
    refine a_ (g_ rfl) rfl ?_
    cases r8
    ·
     replace hr8 := of_decide_eq_false hr8
     refine w_ rfl rfl rfl rfl (w_ rfl rfl rfl rfl (w_ rfl rfl rfl rfl (a_ (H_ rfl rfl) rfl (e_ (b_ rfl (r_ rfl (B_ (b_ rfl (d_ ?_)))))))))
     refine a_ (V_ rfl rfl rfl (am_ (by omega) (by omega))) rfl (a_ (g_ rfl) rfl (e_ (t_ rfl ?_)))
     exact ah_ ⟨(i + 1, Hs_i, e), hlx1, (by rw [dO_ hx1]; first | (rw [if_pos (by rw [Bool.and_eq_true]; exact ⟨by simp only [cL_]; rw [decide_eq_false (by omega)]; rfl, decide_eq_true ⟨by assumption, by assumption⟩⟩), aU_]; exact hS_i) | (rw [if_neg (by rw [Bool.and_eq_true]; intro q; first | exact absurd (of_decide_eq_true q.2).1 (by assumption) | exact absurd (of_decide_eq_true q.2).2 (by assumption) | (have q1 := q.1; simp only [cL_] at q1; rw [decide_eq_true (by omega)] at q1; cases q1)), List.append_nil]; exact hS_i)), by rw [eO_ hx1, ← he]; simp only [cL_]; rw [decide_eq_false (by omega)]; simp⟩ (by dsimp only; omega) ⟨rfl, rfl, rfl, rfl, rfl, rfl, trivial⟩ (l_ (c_ (c_ i_)) (c_ ad_)) (fun _ _ h => h)
    ·
     replace hr8 := of_decide_eq_true hr8
     refine u_ rfl rfl (a_ (K_ 0 af_ M_ rfl rfl rfl) rfl (u_ rfl rfl (a_ (K_ 1 af_ M_ rfl rfl rfl) rfl (u_ rfl rfl (z_ (hg_ (p := (aJ_ (Fc.a f) (Fc.r f) (max (Fc.lo f) (Fc.lo x1)) (min (Fc.hi f) (Fc.hi x1)))) (q := x1) rfl rfl) rfl fun r9 hr9 => ?_)))))
     refine a_ (P_ rfl rfl) rfl (e_ (b_ rfl ?_))
     cases r9
     ·
      replace hr9 := of_decide_eq_false hr9
      refine r_ rfl (B_ (b_ rfl (d_ (a_ (V_ rfl rfl rfl (am_ (by omega) (by omega))) rfl (a_ (g_ rfl) rfl (e_ (t_ rfl ?_)))))))
      exact ah_ ⟨(i + 1, Hs_i, e), hlx1, (by rw [dO_ hx1]; first | (rw [if_pos (by rw [Bool.and_eq_true]; exact ⟨by simp only [cL_]; rw [decide_eq_false (by omega)]; rfl, decide_eq_true ⟨by assumption, by assumption⟩⟩), aU_]; exact hS_i) | (rw [if_neg (by rw [Bool.and_eq_true]; intro q; first | exact absurd (of_decide_eq_true q.2).1 (by assumption) | exact absurd (of_decide_eq_true q.2).2 (by assumption) | (have q1 := q.1; simp only [cL_] at q1; rw [decide_eq_true (by omega)] at q1; cases q1)), List.append_nil]; exact hS_i)), by rw [eO_ hx1, ← he]; simp only [cL_]; rw [decide_eq_false (by omega)]; simp⟩ (by dsimp only; omega) ⟨rfl, rfl, rfl, rfl, rfl, rfl, trivial⟩ (l_ (c_ (c_ i_)) (c_ ad_)) (fun _ _ h => h)
     ·
      replace hr9 := of_decide_eq_true hr9
      refine n_ rfl ?_
      refine aD_ ((b6, .cells #[.int .i64 (Fc.kind (aJ_ (Fc.a f) (Fc.r f) (max (Fc.lo f) (Fc.lo x1)) (min (Fc.hi f) (Fc.hi x1)))), str (Fc.a (aJ_ (Fc.a f) (Fc.r f) (max (Fc.lo f) (Fc.lo x1)) (min (Fc.hi f) (Fc.hi x1)))), str (Fc.b (aJ_ (Fc.a f) (Fc.r f) (max (Fc.lo f) (Fc.lo x1)) (min (Fc.hi f) (Fc.hi x1)))), str (Fc.r (aJ_ (Fc.a f) (Fc.r f) (max (Fc.lo f) (Fc.lo x1)) (min (Fc.hi f) (Fc.hi x1)))), .int .i64 (Fc.lo (aJ_ (Fc.a f) (Fc.r f) (max (Fc.lo f) (Fc.lo x1)) (min (Fc.hi f) (Fc.hi x1)))), .int .i64 (Fc.hi (aJ_ (Fc.a f) (Fc.r f) (max (Fc.lo f) (Fc.lo x1)) (min (Fc.hi f) (Fc.hi x1))))] 41 (0, 0)) :: ((b5, .cells (Fc.cells x1).toArray 41 (0, 0)) :: ((b1, .cells (Fc.cells f).toArray 41 (0, 0)) :: []))) (by kernel_rfl) ?_
      refine ab_ 1 [0, 1, 2, 3, 4] (by kernel_rfl) (fun _ a b => ⟨Vw.sat.sub (a.perm (l_ i_ (l_ i_ i_))), b⟩) (j_ rfl (g_ rfl) rfl (j_ rfl (ag_ rfl) rfl (j_ rfl (k_ F_ rfl rfl rfl aR_) rfl (j_ rfl (Z_ bj_ rfl (fun v _ h => by exact h.1) rfl) rfl (j_ rfl (K_ 0 af_ M_ rfl rfl rfl) rfl (aa_ (N_ 5 rfl (by kernel_rfl) (aF_ (first := []) (cap := E.caps) (E.emit (aJ_ (Fc.a f) (Fc.r f) (max (Fc.lo f) (Fc.lo x1)) (min (Fc.hi f) (Fc.hi x1))) (emits E.stp (fz_ f (List.take i (lat x.ranges ((Fc.a f), (Fc.r f))))) nw) fm Hs_i hS_i) rfl rfl (c_ (c_ ad_)) (fun v _ h => by exact ⟨h.2.2.2.2.2.2.2.2.1, trivial⟩) rfl fun ⟨Hs4, hS4⟩ => ?_))))))))
      dsimp only
      refine e_ (t_ rfl (E_ (fun _ a b => ⟨Vw.sat.sub (a.perm (l_ (m_ i_) (l_ (m_ i_) ba_))), b⟩) (Y_ (by kernel_rfl) (b_ rfl (d_ (a_ (V_ rfl rfl rfl (am_ (by omega) (by omega))) rfl (a_ (g_ rfl) rfl (e_ (t_ rfl ?_)))))))))
      exact ah_ ⟨(i + 1, Hs4, e), hlx1, (by rw [dO_ hx1]; first | (rw [if_pos (by rw [Bool.and_eq_true]; exact ⟨by simp only [cL_]; rw [decide_eq_false (by omega)]; rfl, decide_eq_true ⟨by assumption, by assumption⟩⟩), aU_]; exact hS4) | (rw [if_neg (by rw [Bool.and_eq_true]; intro q; first | exact absurd (of_decide_eq_true q.2).1 (by assumption) | exact absurd (of_decide_eq_true q.2).2 (by assumption) | (have q1 := q.1; simp only [cL_] at q1; rw [decide_eq_true (by omega)] at q1; cases q1)), List.append_nil]; exact hS4)), by rw [eO_ hx1, ← he]; simp only [cL_]; rw [decide_eq_false (by omega)]; simp⟩ (by dsimp only; omega) ⟨rfl, rfl, rfl, rfl, rfl, rfl, trivial⟩ (l_ (m_ (c_ (c_ i_))) q_) (fun _ _ h => h)
   ·
    replace hr7 := of_decide_eq_true hr7
    refine n_ rfl (d_ (a_ (h_ rfl) rfl (e_ (b_ rfl (d_ (a_ (V_ rfl rfl rfl (am_ (by omega) (by omega))) rfl (a_ (g_ rfl) rfl (e_ (t_ rfl ?_)))))))))
    exact ah_ ⟨(i + 1, Hs_i, true), hlx1, (by rw [dO_ hx1]; first | (rw [if_pos (by rw [Bool.and_eq_true]; exact ⟨by simp only [cL_]; rw [decide_eq_false (by omega)]; rfl, decide_eq_true ⟨by assumption, by assumption⟩⟩), aU_]; exact hS_i) | (rw [if_neg (by rw [Bool.and_eq_true]; intro q; first | exact absurd (of_decide_eq_true q.2).1 (by assumption) | exact absurd (of_decide_eq_true q.2).2 (by assumption) | (have q1 := q.1; simp only [cL_] at q1; rw [decide_eq_true (by omega)] at q1; cases q1)), List.append_nil]; exact hS_i)), by rw [eO_ hx1, ← he]; simp only [cL_]; rw [decide_eq_true (by omega)]; simp⟩ (by dsimp only; omega) ⟨rfl, rfl, rfl, rfl, rfl, rfl, trivial⟩ (l_ (c_ i_) ad_) (fun _ _ h => h)
theorem oO_ (B : EngB) (E : Emt Tryz.prog 41) (nw fm : List Fc) (Hs : Hp) (hS : E.St nw fm Hs) (al : List Str) (aad : Option Addr) (acap : Nat) (hal : al.length ≤ 1000000000) (hll : B.lps.length ≤ 1000000000) : Tri Tryz.prog 57 #[zp_ B.g 0, .slice aad (List.length al) acap] Hs [gF B E, bb_ B.lad (List.flatMap bf_ B.lps), bb_ aad (List.flatMap bf_ al), E.ef] (fun _ : {H' : Hp // E.St (emits E.stp (dU_ B.lps al) nw) fm H'} => .tuple #[]) (fun y => y.1) (fun _ => []) := by
 refine R_ Tryz.func57 rfl rfl Tryz.ntmps57 rfl fun v0 => ?_
 refine f_ (d_ (a_ (g_ rfl) rfl (a_ (at_ L_ rfl) rfl (a_ (g_ rfl) rfl (e_ (b_ rfl (S_ ?_)))))))
 refine aV_ (ι := {y : Nat × Hp // y.1 ≤ List.length al ∧ E.St (emits E.stp (List.flatMap (fun a => ax_ a a :: ax_ a [42] :: List.map (fun r => aN_ a r a) B.lps) (List.take y.1 al)) nw) fm y.2}) (fun y => [(0, zp_ B.g 0), (8, .slice aad (List.length al) acap), (9, .int .i64 (List.length al : Int)), (10, .int .i64 (y.1.1 : Int))]) (fun y => (y.1.2)) (fun y => [gF B E, bb_ B.lad (List.flatMap bf_ B.lps), bb_ aad (List.flatMap bf_ al), E.ef]) (fun y => List.length al - y.1.1) ⟨((0 : Nat), Hs), by simp, by exact hS⟩ ⟨rfl, rfl, rfl, rfl, trivial⟩ be_ (fun _ _ h => h) ?_
 rintro ⟨⟨i, Hs_i⟩, hi_i, hS_i⟩
 dsimp only at hi_i hS_i ⊢
 have hb_i := hal
 refine f_ (d_ (z_ (aC_ rfl rfl) rfl fun r1 hr1 => ?_))
 refine e_ (b_ rfl (f_ ?_))
 cases r1
 ·
  replace hr1 := of_decide_eq_false hr1
  refine r_ rfl (ay_ rfl (aQ_ rfl ?_))
  exact ch_ Tryz.results57 ⟨Hs_i, by unfold dU_; rw [List.take_of_length_le (by omega)] at hS_i; exact hS_i⟩ rfl be_ (fun _ _ _ => trivial)
 ·
  replace hr1 := of_decide_eq_true hr1
  have hlx1 : i < List.length al := by omega
  obtain ⟨x1, hx1⟩ : ∃ e0, al[i]? = some e0 := ⟨_, List.getElem?_eq_getElem hlx1⟩
  have hmx1 : x1 ∈ al := List.mem_of_getElem? hx1
  refine n_ rfl (B_ (b_ rfl (f_ (S_ (f_ (d_ (a_ (aj_ L_ p_ rfl rfl (fun v _ h => aO_ (n := 1) aX_ (by decide) (by exact h.2.2.1) hx1) (by omega) (by first | omega | (simp; done))) rfl (a_ (bA_ (ad := aad) v_ rfl (fun v _ h => by exact h.2.2.1) (an_ aX_ hx1 0 _ rfl)) rfl (a_ (h_ rfl) rfl ?_)))))))))
  refine e_ (b_ rfl (f_ ?_))
  refine aD_ ([]) (by kernel_rfl) ?_
  refine ab_ 2 [0, 1, 2, 3, 4, 5] (by kernel_rfl) (fun _ a b => ⟨dH_ a, b⟩) (j_ rfl (g_ rfl) rfl (j_ rfl (ag_ rfl) rfl (j_ rfl (k_ F_ rfl rfl rfl aR_) rfl (j_ rfl (Z_ bj_ rfl (fun v _ h => by exact h.1) rfl) rfl (j_ rfl (g_ rfl) rfl (j_ rfl (g_ rfl) rfl (aa_ (N_ 6 rfl (by kernel_rfl) (Q_ (eX_ x1 x1) rfl X_ (fun _ _ _ => by exact trivial) rfl fun _ => ?_)))))))))
  refine ap_ ox_ (e_ (t_ rfl (E_ (fun _ a b => ⟨dH_ a, b⟩) (N_ 7 rfl (by kernel_rfl) (aF_ (first := []) (cap := E.caps) (E.emit (ax_ x1 x1) (emits E.stp (List.flatMap (fun a => ax_ a a :: ax_ a [42] :: List.map (fun r => aN_ a r a) B.lps) (List.take i al)) nw) fm Hs_i hS_i) rfl rfl be_ (fun v _ h => by exact ⟨h.2.2.2.1, trivial⟩) rfl fun ⟨Hs1, hS1⟩ => ?_)))))
  dsimp only
  refine ap_ if_ (e_ (t_ rfl (E_ (fun _ a b => ⟨dH_ a, b⟩) (Y_ (by kernel_rfl) (b_ rfl (f_ ?_))))))
  refine aD_ ([]) (by kernel_rfl) ?_
  refine ab_ 2 [0, 1, 2, 3, 4] (by kernel_rfl) (fun _ a b => ⟨dH_ a, b⟩) (j_ rfl (g_ rfl) rfl (j_ rfl (ag_ rfl) rfl (j_ rfl (k_ F_ rfl rfl rfl aR_) rfl (j_ rfl (Z_ bj_ rfl (fun v _ h => by exact h.1) rfl) rfl (j_ rfl (g_ rfl) rfl (aa_ (N_ 5 rfl (by kernel_rfl) (Q_ (eX_ x1 [42]) rfl X_ (fun _ _ _ => by exact trivial) rfl fun _ => ?_))))))))
  refine ap_ ox_ (e_ (t_ rfl (E_ (fun _ a b => ⟨dH_ a, b⟩) (N_ 6 rfl (by kernel_rfl) (aF_ (first := []) (cap := E.caps) (E.emit (ax_ x1 [42]) (E.stp (ax_ x1 x1) (emits E.stp (List.flatMap (fun a => ax_ a a :: ax_ a [42] :: List.map (fun r => aN_ a r a) B.lps) (List.take i al)) nw)) fm Hs1 hS1) rfl rfl be_ (fun v _ h => by exact ⟨h.2.2.2.1, trivial⟩) rfl fun ⟨Hs2, hS2⟩ => ?_)))))
  dsimp only
  refine ap_ if_ (e_ (t_ rfl (E_ (fun _ a b => ⟨dH_ a, b⟩) (Y_ (by kernel_rfl) (b_ rfl (f_ (d_ (a_ (g_ rfl) rfl (a_ (ag_ rfl) rfl ?_)))))))))
  refine a_ (k_ F_ rfl rfl rfl bq_) rfl (a_ (Z_ cd_ rfl (fun v _ h => by exact h.1) rfl) rfl (a_ (at_ L_ rfl) rfl (a_ (g_ rfl) rfl (e_ (b_ rfl (S_ ?_))))))
  refine aV_ (ι := {y : Nat × Hp // y.1 ≤ List.length B.lps ∧ E.St (emits E.stp (List.map (fun r => aN_ x1 r x1) (List.take y.1 B.lps)) (E.stp (ax_ x1 [42]) (E.stp (ax_ x1 x1) (emits E.stp (List.flatMap (fun a => ax_ a a :: ax_ a [42] :: List.map (fun r => aN_ a r a) B.lps) (List.take i al)) nw)))) fm y.2}) (fun y => [(0, zp_ B.g 0), (8, .slice aad (List.length al) acap), (9, .int .i64 (List.length al : Int)), (10, .int .i64 (i : Int)), (5, str x1), (32, .slice B.lad (List.length B.lps) B.lcap), (33, .int .i64 (List.length B.lps : Int)), (34, .int .i64 (y.1.1 : Int))]) (fun y => (y.1.2)) (fun y => [gF B E, bb_ B.lad (List.flatMap bf_ B.lps), bb_ aad (List.flatMap bf_ al), E.ef]) (fun y => List.length B.lps - y.1.1) ⟨((0 : Nat), Hs2), by simp, by exact hS2⟩ ⟨rfl, rfl, rfl, rfl, rfl, rfl, rfl, rfl, trivial⟩ be_ (fun _ _ h => h) ?_
  rintro ⟨⟨j, Hs_j⟩, hi_j, hS_j⟩
  dsimp only at hi_j hS_j ⊢
  have hb_j := hll
  refine f_ (d_ (z_ (aC_ rfl rfl) rfl fun r2 hr2 => ?_))
  refine e_ (b_ rfl (f_ ?_))
  cases r2
  ·
   replace hr2 := of_decide_eq_false hr2
   refine r_ rfl (ay_ rfl (b_ rfl (d_ (a_ (V_ rfl rfl rfl (am_ (by omega) (by omega))) rfl (a_ (g_ rfl) rfl (e_ (t_ rfl ?_)))))))
   exact ah_ ⟨(i + 1, Hs_j), hlx1, (by rw [gb_ hx1, aU_]; have e9 : List.take j B.lps = B.lps := List.take_of_length_le (by omega); rw [e9] at hS_j; exact hS_j)⟩ (by dsimp only; omega) ⟨rfl, rfl, rfl, rfl, trivial⟩ be_ (fun _ _ h => h)
  ·
   replace hr2 := of_decide_eq_true hr2
   have hlx2 : j < List.length B.lps := by omega
   obtain ⟨x2, hx2⟩ : ∃ e0, B.lps[j]? = some e0 := ⟨_, List.getElem?_eq_getElem hlx2⟩
   have hmx2 : x2 ∈ B.lps := List.mem_of_getElem? hx2
   refine n_ rfl (B_ (b_ rfl (f_ (S_ (f_ (d_ (a_ (aj_ L_ p_ rfl rfl (fun v _ h => aO_ (n := 1) aX_ (by decide) (by exact h.2.1) hx2) (by omega) (by first | omega | (simp; done))) rfl (a_ (bA_ (ad := B.lad) v_ rfl (fun v _ h => by exact h.2.1) (an_ aX_ hx2 0 _ rfl)) rfl (a_ (h_ rfl) rfl ?_)))))))))
   refine e_ (b_ rfl ?_)
   refine aD_ ([]) (by kernel_rfl) ?_
   refine ab_ 2 [0, 1, 2, 3, 4, 5, 6] (by kernel_rfl) (fun _ a b => ⟨dH_ a, b⟩) (j_ rfl (g_ rfl) rfl (j_ rfl (ag_ rfl) rfl (j_ rfl (k_ F_ rfl rfl rfl aR_) rfl (j_ rfl (Z_ bj_ rfl (fun v _ h => by exact h.1) rfl) rfl (j_ rfl (g_ rfl) rfl (j_ rfl (g_ rfl) rfl (j_ rfl (g_ rfl) rfl (aa_ (N_ 7 rfl (by kernel_rfl) ?_)))))))))
   refine Q_ (iI_ x1 x2 x1) rfl X_ (fun _ _ _ => by exact trivial) rfl fun _ => ?_
   refine ap_ ox_ (e_ (t_ rfl (E_ (fun _ a b => ⟨dH_ a, b⟩) (N_ 8 rfl (by kernel_rfl) (aF_ (first := []) (cap := E.caps) (E.emit (aN_ x1 x2 x1) (emits E.stp (List.map (fun r => aN_ x1 r x1) (List.take j B.lps)) (E.stp (ax_ x1 [42]) (E.stp (ax_ x1 x1) (emits E.stp (List.flatMap (fun a => ax_ a a :: ax_ a [42] :: List.map (fun r => aN_ a r a) B.lps) (List.take i al)) nw)))) fm Hs_j hS_j) rfl rfl be_ (fun v _ h => by exact ⟨h.2.2.2.1, trivial⟩) rfl fun ⟨Hs3, hS3⟩ => ?_)))))
   dsimp only
   refine ap_ if_ (e_ (t_ rfl (E_ (fun _ a b => ⟨dH_ a, b⟩) (Y_ (by kernel_rfl) (b_ rfl (d_ (a_ (V_ rfl rfl rfl (am_ (by omega) (by omega))) rfl (a_ (g_ rfl) rfl (e_ ?_)))))))))
   refine t_ rfl ?_
   exact ah_ ⟨(j + 1, Hs3), hlx2, (by rw [es_ hx2, aU_]; exact hS3)⟩ (by dsimp only; omega) ⟨rfl, rfl, rfl, rfl, rfl, rfl, rfl, rfl, trivial⟩ be_ (fun _ _ h => h)
end Go.Proofs.YtpdbbglpbngeiaaGreatDoor
