/-
  Part of the proof of the law CheckerGrows over this seat: the small logic, the data, the contracts of functions (no condition).
-/
import Derived.Test.YtaffcjgphlhppaaGreatDoorQCheckerGrows11
import Derived.Test.YtaffcjgphlhppaaGreatDoorQCheckerGrows7
import Derived.Test.YtaffcjgphlhppaaGreatDoorQCheckerGrows6
set_option linter.unusedVariables false
set_option linter.unusedSimpArgs false
set_option linter.unusedSectionVars false
namespace Go.Proofs.YtaffcjgphlhppaaGreatDoor
open Go Go.Sx Go.Proofs
attribute [local irreducible] Code.wp wpList wpAnyH
open Go.Vs
theorem nF_ {v : Vw} {F F' : Hp} {b c : Nat} {x y : Value} (hF : F.Perm ((b, .cells #[x] 27 (0, 0)) :: (c, .cells #[y] 31 (0, 0)) :: F')) (t : TypeId) (u : Value) (hs : v.sat F) :
    CallsD Tryz.prog 41 #[zp_ b 0, zp_ c 0] (.panicking (hM_ t u)) v.w fun e u' w' => e = .returned (.tuple #[]) ∧ u' = .panicking [{ v := .iface t u, recovered := true }] ∧ ∃ v' : Vw, v'.w = w' ∧ v'.sat ((b, .cells #[.slice none 0 0] 27 (0, 0)) :: (c, .cells #[.int .i64 120] 31 (0, 0)) :: F') ∧ v.to F v' ((b, .cells #[.slice none 0 0] 27 (0, 0)) :: (c, .cells #[.int .i64 120] 31 (0, 0)) :: F') := by
  have h2 := hs.perm hF
  have hb := (h2.own _ List.mem_cons_self).1
  have hbc : b ≠ c := by
    have := h2.nodup
    simp only [List.map_cons, List.nodup_cons, List.mem_cons, not_or] at this
    exact this.1.1
  have hcb : v.w.cell? ⟨b, 0, none⟩ = some x := by simp [World.cell?, hb]
  have hzb : v.w.frozen? ⟨b, 0, none⟩ = false := by simp [World.frozen?, hb]
  have hset : ((v.w.setCell ⟨b, 0, none⟩ (.slice none 0 0)).heap)[b]? = some (.cells #[.slice none 0 0] 27 (0, 0)) := by
    simp [World.setCell, Array.getElem?_modify, hb]
  have hoth : ∀ k, k ≠ b → ((v.w.setCell ⟨b, 0, none⟩ (.slice none 0 0)).heap)[k]? = v.w.heap[k]? := fun k hk => by
    simp [World.setCell, Array.getElem?_modify, Ne.symm hk]
  obtain ⟨g1, g2⟩ := ef_ (i := 0) (o' := .cells #[.slice none 0 0] 27 (0, 0)) (w' := v.w.setCell ⟨b, 0, none⟩ (.slice none 0 0)) h2 rfl rfl rfl rfl (Nat.le_refl _) (by simp [World.setCell]) hset hoth
  simp only [List.set_cons_zero] at g1 g2
  generalize hw : v.w.setCell ⟨b, 0, none⟩ (.slice none 0 0) = w1 at g1 g2
  have hc := (g1.own _ (List.mem_cons_of_mem _ List.mem_cons_self)).1
  simp only at hc
  have hcc : w1.cell? ⟨c, 0, none⟩ = some y := by simp [World.cell?, hc]
  have hzc : w1.frozen? ⟨c, 0, none⟩ = false := by simp [World.frozen?, hc]
  have hset2 : ((w1.setCell ⟨c, 0, none⟩ (.int .i64 120)).heap)[c]? = some (.cells #[.int .i64 120] 31 (0, 0)) := by
    simp [World.setCell, Array.getElem?_modify, hc]
  have hoth2 : ∀ k, k ≠ c → ((w1.setCell ⟨c, 0, none⟩ (.int .i64 120)).heap)[k]? = w1.heap[k]? := fun k hk => by
    simp [World.setCell, Array.getElem?_modify, Ne.symm hk]
  obtain ⟨k1, k2⟩ := ef_ (i := 1) (o' := .cells #[.int .i64 120] 31 (0, 0)) (w' := w1.setCell ⟨c, 0, none⟩ (.int .i64 120)) g1 rfl rfl rfl rfl (Nat.le_refl _) (by simp [World.setCell]) hset2 hoth2
  simp only [List.set_cons_succ, List.set_cons_zero] at k1 k2
  refine callsD_of_wpS Tryz.func41 rfl fun c₀ cs hu => ?_
  apply wpS_seq
  apply wpS_region
  simp [wpOpsS, go_sem, recoverD, hu, hM_, Tryz.ntmps41, Exit.thenS]
  refine wpS_cond (t := true) (by simp [Act.eval, Array.replicate]) ?_
  simp only [if_true]
  apply wpS_region
  simp [wpOpsS, go_sem, Instr.build, hcb, hzb, hw, hcc, hzc, bodyPostS, results, Tryz.results41, fy_, aa_, bJ_, pc_]
  exact ⟨_, rfl, k1, (g2.trans k2).permL hF.symm⟩
theorem oJ_ (b c : Nat) (w : World) : CallsD Tryz.prog 41 #[zp_ b 0, zp_ c 0] .returning w fun e u' w' => e = .returned (.tuple #[]) ∧ u' = .returning ∧ w' = w := by
  refine callsD_of_wpS Tryz.func41 rfl fun c₀ cs hu => ?_
  apply wpS_seq
  apply wpS_region
  simp [wpOpsS, go_sem, recoverD, hu, Tryz.ntmps41, Exit.thenS]
  refine wpS_cond (t := false) (by simp [Act.eval, Array.replicate]) ?_
  simp only [Bool.false_eq_true, if_false]
  refine wpS_of_wp (wp_skip ?_)
  cases c₀
  simp_all [bodyPostS, results, Tryz.results41]
theorem nj_ (b c : Nat) (w : World) : (invoke (.fn (.func 41) #[zp_ b 0, zp_ c 0]) #[]).run Tryz.prog w = .ok (.enter 41 #[zp_ b 0, zp_ c 0]) w := by
  exact callable (P := Tryz.prog) Tryz.func41 rfl rfl #[zp_ b 0, zp_ c 0] w
def nL_ (r : Str) (l : List Stp) (e : Int) : Prop := (kH_ r = some (l.map Stp.ds) ∧ e = 0) ∨ (kH_ r = none ∧ l = [] ∧ e = 120)
theorem du_ {n i : Nat} {l : List Ds} {r : Str} {X : Option (List Ds × Str)} (hX : X = (dk_ (n - i) r).map fun z => (l ++ z.1, z.2)) (hi : i < n) (h : fQ_ r = none) : X = none := by
  obtain ⟨k, hk⟩ : ∃ k, n - i = k + 1 := ⟨n - i - 1, by omega⟩
  rw [hX, hk, dk_, h]; rfl
theorem cv_ {n i : Nat} {l : List Ds} {r r' : Str} {v : Ds} {X : Option (List Ds × Str)} (hX : X = (dk_ (n - i) r).map fun z => (l ++ z.1, z.2)) (hi : i < n) (h : fQ_ r = some (v, r')) : X = (dk_ (n - (i + 1)) r').map fun z => ((l ++ [v]) ++ z.1, z.2) := by
  obtain ⟨k, hk⟩ : ∃ k, n - i = k + 1 := ⟨n - i - 1, by omega⟩
  rw [hX, hk, show n - (i + 1) = k by omega, dk_, h, Option.bind_some, Option.map_map]
  congr 1
  funext z
  simp
theorem hZ_ {n i : Nat} {l : List Ds} {r : Str} {X : Option (List Ds × Str)} (hX : X = (dk_ (n - i) r).map fun z => (l ++ z.1, z.2)) (hi : n ≤ i) : X = some (l, r) := by
  rw [hX, show n - i = 0 by omega]; simp [dk_]
theorem panDg {P : Program} {fr : Fr} {N : Nat} {fn : Func} {ι : Type} {v0 : Vw} {H0 F HF' F' : Hp} {ret : ι → Value} {H' : ι → Hp} {Γ' : ι → List Fct} {fv : Fn} {cap dargs : Array Value} {g : FuncId} {cargs : Array Value} (x : ι)
    (hi : ∀ w, (invoke (.fn fv cap) dargs).run P w = .ok (.enter g cargs) w)
    (hc : ∀ (v : Vw) t u, v.sat F → CallsD P g cargs (.panicking (hM_ t u)) v.w fun e u' w' => e = .returned (.tuple #[]) ∧ u' = .panicking [{ v := .iface t u, recovered := true }] ∧ ∃ v' : Vw, v'.w = w' ∧ v'.sat HF' ∧ v.to F v' HF')
    (hx : ∀ (a : Act) (v : Vw), Fr.sat ⟨N, [{ target := .fn fv cap, args := dargs }]⟩ fr a → v.sat HF' → (results fn a.tmps).run P v.w = .ok (ret x) v.w) (hH : HF'.Perm (H' x ++ F')) (hΓ : ∀ v, aw_ (Γ' x) v) :
    gj_ (bodyPostD P fn (ep_ v0 H0 ret H' Γ')) ⟨N, [{ target := .fn fv cap, args := dargs }]⟩ v0 H0 fr F := fun a v t u h1 h2 h3 => by
  show Leaves P fn a.tmps _ a.defers (.panicking (hM_ t u)) v.w
  rw [h1.defers]
  refine leaves_cons (by simp) (hi v.w) ?_
  refine (hc v t u h2).mono ?_
  rintro e u' w' ⟨rfl, rfl, v', rfl, k1, k2⟩
  have h3' := h3.trans k2
  exact ⟨ret x, hx a v' h1 k1, x, v', rfl, rfl, (k1.perm hH).sub, hΓ v', h3'.subR fun b hb => by
    have : b ∈ (H' x ++ F').map Prod.fst := by rw [List.map_append]; exact List.mem_append_left _ hb
    exact (hH.map Prod.fst).mem_iff.2 this⟩
theorem la_ {P : Program} {N : Nf} {fr : Fr} {H : Hp} {fn : Func} {t s b c : Nat} {ty ty2 T T2 : TypeId} {u u2 : Value} (i j : Nat) (hr : fn.results = #[.cell t ty, .cell s ty2]) (ha : ∀ w, (isAgg ty).run P w = .ok true w) (hs : ∀ w, (sizeOf ty).run P w = .ok 1 w) (ha2 : ∀ w, (isAgg ty2).run P w = .ok false w)
    (hx : Fr.get fr t = some (zp_ b 0)) (hx2 : Fr.get fr s = some (zp_ c 0)) (hi : H[i]? = some (b, .cells #[u] T (0, 0))) (hj : H[j]? = some (c, .cells #[u2] T2 (0, 0))) (a : Act) (v : Vw) (h1 : Fr.sat N fr a) (h2 : v.sat H) :
    (results fn a.tmps).run P v.w = .ok (.tuple #[.agg #[u], u2]) v.w := by
  have e := h1.val t _ hx
  have e2 := h1.val s _ hx2
  have hl := cp_ (t := ty) (w := v.w) (b := b) (off := 0) (cs := [u]) ha hs rfl (fun j y hj => by rw [Nat.zero_add, dW_ h2 hi]; simpa using hj)
  have hb := (h2.own _ (List.mem_of_getElem? hj)).1
  have hc : v.w.cell? ⟨c, 0, none⟩ = some u2 := by simp [World.cell?, hb]
  simp [results, hr, e, e2, asAddr, hl, bK_ ha2 hc]
theorem Stp.cells_one (s : Stp) : s.cells.all Value.oneCell' = true := rfl
theorem eL_ {v0 : Vw} {H0 F F' : Hp} {fr : Fr} {b c : Nat} {x y : Value} {r : Str} (hX : kH_ r = none) (hx : Fr.get fr 2 = some (zp_ b 0)) (hx2 : Fr.get fr 3 = some (zp_ c 0)) (hF : F.Perm ((b, .cells #[x] 27 (0, 0)) :: (c, .cells #[y] 31 (0, 0)) :: F')) :
    gj_ (bodyPostD Tryz.prog Tryz.f17 (ep_ v0 H0 (fun y : {y : (List Stp × Option Addr × Nat) × Int // nL_ r y.1.1 y.2 ∧ y.1.1.length ≤ y.1.2.2 ∧ y.1.2.2 ≤ maxLen ∧ (y.1.2.1 = none → y.1.2.2 = 0)} => .tuple #[.agg #[.slice y.1.1.2.1 (List.length y.1.1.1) y.1.1.2.2], .int .i64 y.1.2]) (fun _ => []) (fun y => [aR_ y.1.1.2.1 (List.flatMap Stp.cells y.1.1.1), cD_ y.1.1.1]))) ⟨34, [{ target := .fn (.func 41) #[zp_ b 0, zp_ c 0], args := #[] }]⟩ v0 H0 fr F :=
  panDg (F' := (b, .cells #[.slice none 0 0] 27 (0, 0)) :: (c, .cells #[.int .i64 120] 31 (0, 0)) :: F') ⟨(([], none, 0), 120), .inr ⟨hX, rfl, rfl⟩, Nat.le_refl _, Nat.zero_le _, fun _ => rfl⟩ (nj_ b c) (fun v t u hs => nF_ hF t u hs)
    (fun a v h1 h2 => la_ 0 1 Tryz.results17 da_ bJ_ Tryz.isAgg31 hx hx2 rfl rfl a v h1 h2) (.refl _) (fun v => ⟨.inl rfl, fn_, trivial⟩)
theorem dA_ : Elt Tryz.prog 25 36 9 112 := ix_ Tryz.underlying25 (z := .agg #[.int .i64 0, .int .i64 0, str [], str [], str [], .int .i64 0, .int .i64 0, .int .i64 0, .slice none 0 0]) (by kernel_rfl) rfl (by decide)
theorem strt92 : gy_ Tryz.prog 92 [(0, 1)] [.slice none 0 0] := ⟨_, Tryz.zeroValue92, cY_, fun w => by simp [dE_]⟩
theorem kg_ (r : Str) (ad : Option Addr) (cap : Nat) (hok : Dst.ok (Dst.mk ad cap r)) : Tri Tryz.prog 17 #[.slice ad (List.length r) cap] [] [aR_ ad (List.flatMap u8C r)] (fun y : {y : (List Stp × Option Addr × Nat) × Int // nL_ r y.1.1 y.2 ∧ y.1.1.length ≤ y.1.2.2 ∧ y.1.2.2 ≤ maxLen ∧ (y.1.2.1 = none → y.1.2.2 = 0)} => .tuple #[.agg #[.slice y.1.1.2.1 (List.length y.1.1.1) y.1.1.2.2], .int .i64 y.1.2]) (fun _ => []) (fun y => [aR_ y.1.1.2.1 (List.flatMap Stp.cells y.1.1.1), cD_ y.1.1.1]) := by
 refine fM_ Tryz.func17 rfl rfl Tryz.ntmps17 rfl fun v0 => ?_
 refine g_ (c_ (ad_ fy_ rfl fun b1 => ?_))
 refine ad_ Tryz.zeroValue31 rfl fun b2 => ?_
 refine d_ (b_ rfl (g_ (c_ (a_ (cW_ rfl rfl) rfl (ig_ (N := 34) (D := []) rfl rfl rfl (d_ (b_ rfl (g_ (c_ ?_)))))))))
 refine a_ (f_ rfl) rfl (a_ (ax_ strt92 rfl rfl) rfl (aL_ rfl rfl fun b3 => ?_))
 refine a_ (e_ rfl) rfl (d_ (b_ rfl (g_ (c_ (a_ (f_ rfl) rfl (al_ (gh_ b3 (Dst.mk ad cap r) hok) rfl D_ (fun v _ h => by exact ⟨h.1, trivial⟩) rfl (fun hb => eL_ (r := r) ((by rw [dp_, hb]; rfl)) rfl rfl (N_ (H_ D_) D_)) fun ⟨⟨nv, d1⟩, hq1, hd1⟩ => ?_))))))
 try dsimp only
 refine a_ (e_ rfl) rfl (d_ (b_ rfl (g_ (c_ (a_ (f_ rfl) rfl (E_ (bX_ rfl rfl) rfl fun r1 hr1 => ?_))))))
 refine al_ (cL_ r1) rfl B_ (fun _ _ _ => by exact trivial) rfl (fun hb => eL_ (r := r) ((by rw [dp_, hq1, Option.bind_some, if_neg (fun q => by rw [hb] at hr1; simp at hr1; omega)])) rfl rfl (N_ (H_ (H_ D_)) (H_ D_))) fun ⟨_, hn1⟩ => ?_
 try dsimp only
 have hn1 : nv ≤ 65536 := by have z := hr1; rw [hn1] at z; simp at z; omega
 refine d_ (b_ rfl (g_ (g_ (c_ (a_ (f_ rfl) rfl (a_ (f_ rfl) rfl (d_ (b_ rfl (ae_ ?_)))))))))
 have hbd := eP_ hq1
 refine bz_ (ι := {y : Nat × List Stp × Dst × Value × Hp // (y.1 : Int) ≤ nv ∧ dk_ (Int.toNat nv) d1.r = (dk_ (Int.toNat nv - y.1) y.2.2.1.r).map (fun z => (List.map Stp.ds y.2.1 ++ z.1, z.2)) ∧ Dst.ok y.2.2.1 ∧ List.length y.2.1 = y.1 ∧ br_ 36 9 y.2.2.2.1 (List.length y.2.1) (List.flatMap Stp.cells y.2.1) y.2.2.2.2}) (fun y => [(2, zp_ b1 0), (3, zp_ b2 0), (4, zp_ b3 0), (15, .int .i64 nv), (16, .int .i64 (y.1.1 : Int))]) (fun y => ((b1, .cells #[y.1.2.2.2.1] 27 (0, 0)) :: ((b2, .cells #[.int .i64 0] 31 (0, 0)) :: ((b3, .cells #[.slice (Dst.ad y.1.2.2.1) (List.length (Dst.r y.1.2.2.1)) (Dst.cap y.1.2.2.1)] 92 (0, 0)) :: y.1.2.2.2.2)))) (fun y => [aR_ (Dst.ad y.1.2.2.1) (List.flatMap u8C (Dst.r y.1.2.2.1)), cD_ y.1.2.1]) (fun y => Int.toNat nv - y.1.1) ⟨((0 : Nat), ([] : List Stp), d1, (.slice none 0 0), []), (by dsimp only; omega), (by simp), hd1, rfl, (br_.nil _ _)⟩ ⟨rfl, rfl, rfl, rfl, rfl, trivial⟩ (N_ (H_ (H_ D_)) (N_ (H_ D_) D_)) (fun v _ h => by exact ⟨h.1, fn_, trivial⟩) ?_
 rintro ⟨⟨i, l, e, sv_S, H_S⟩, hi, hI, he, hll, hr_S⟩
 dsimp only at hi hI he hll hr_S ⊢
 refine g_ (c_ (E_ (au_ rfl rfl) rfl fun r2 hr2 => ?_))
 refine d_ (b_ rfl (g_ ?_))
 cases r2
 ·
  replace hr2 := of_decide_eq_false hr2
  refine y_ rfl (bi_ rfl (b_ rfl (g_ (c_ (a_ (f_ rfl) rfl (a_ (aY_ rfl) rfl (a_ (h_ cY_ rfl rfl rfl dE_) rfl (a_ (m_ 2 kE_ rfl rfl rfl) rfl (a_ (aB_ bv_ rfl) rfl ?_)))))))))
  refine E_ (aC_ rfl rfl) rfl fun r3 hr3 => ?_
  refine al_ (cL_ r3) rfl B_ (fun _ _ _ => by exact trivial) rfl (fun hb => eL_ (r := r) ((by rw [dp_, hq1, Option.bind_some, if_pos hn1, hZ_ hI (by omega), Option.bind_some, if_neg (fun q => by dsimp only at q; rw [q, hb] at hr3; simp at hr3)])) rfl rfl (N_ D_ D_)) fun ⟨_, hn2⟩ => ?_
  try dsimp only
  have hn2 : e.r = [] := by have z := hr3; rw [hn2] at z; simpa using z
  refine d_ (b_ rfl (g_ (dh_ hr_S (H_ (H_ aQ_)) fun sad scap hsad hcsad hmsad hzsad => ?_)))
  subst hsad
  refine c_ (a_ (O_ 0 da_ bJ_ rfl rfl rfl) rfl (X_ 0 bJ_ rfl rfl rfl rfl rfl rfl (X_ 1 pc_ rfl rfl rfl rfl rfl rfl (d_ (b_ rfl (u_ ?_))))))
  have hfin : nL_ r l 0 := .inl ⟨by rw [dp_, hq1, Option.bind_some, if_pos hn1, hZ_ hI (by omega), Option.bind_some, if_pos hn2], rfl⟩
  exact mJ_ (F := _) ⟨((l, sad, scap), 0), hfin, hcsad, hmsad, hzsad⟩ (nj_ b1 b2) (oJ_ b1 b2) (fun a v h1 h2 => la_ 0 1 Tryz.results17 da_ bJ_ Tryz.isAgg31 rfl rfl rfl rfl a v h1 h2) B_ (fun v _ h => by exact ⟨h.1, h.2.2.1, trivial⟩)
 ·
  replace hr2 := of_decide_eq_true hr2
  refine w_ rfl (L_ (b_ rfl (g_ (ae_ ?_))))
  refine cq_ ([]) (by kernel_rfl) ?_
  refine bT_ 0 2 rfl rfl (by kernel_rfl) ?_ ?_
  ·
   refine a_ (h_ aa_ rfl rfl rfl an_) rfl (d_ (q_ rfl (A_ (fun _ a b => ⟨av_ a, b⟩) ?_)))
   refine bT_ 1 2 rfl rfl (by kernel_rfl) ?_ ?_
   ·
    refine a_ (m_ 0 aV_ rfl rfl rfl) rfl (d_ (q_ rfl (A_ (fun _ a b => ⟨av_ a, b⟩) (I_ 2 rfl (by kernel_rfl) (a_ (f_ rfl) rfl (d_ (q_ rfl (A_ (fun _ a b => ⟨av_ a, b⟩) (I_ 3 rfl (by kernel_rfl) ?_)))))))))
    refine al_ (fw_ b3 e he) rfl (H_ (H_ D_)) (fun v _ h => by exact ⟨h.1, trivial⟩) rfl (fun hb => eL_ (r := r) ((by rw [dp_, hq1, Option.bind_some, if_pos hn1, du_ hI (by omega) hb]; rfl)) rfl rfl (N_ D_ D_)) fun ⟨⟨sp, e1⟩, hs1, he1⟩ => ?_
    try dsimp only
    refine d_ (q_ rfl (A_ (fun _ a b => ⟨av_ a, b.2.2⟩) (I_ 4 rfl (by kernel_rfl) (aX_ ab_ as_ bc_ rfl rfl rfl rfl rfl rfl fun b4 => ?_))))
    refine d_ (q_ rfl (A_ (fun _ a b => ⟨av_ a, b.2.2⟩) (I_ 5 rfl (by kernel_rfl) (bH_ (news := List.flatMap Stp.cells [sp]) dA_ hr_S rfl rfl (H_ (H_ (H_ aQ_))) rfl (cn_ 0 rfl) (fun u hu => bS_ Stp.cells_one hu) (by simp only [maxLen]; omega) (by omega) rfl fun sv1 Hr1 hr1 => ?_))))
    refine aZ_ List.perm_append_comm ?_
    have hq1 : br_ 36 9 sv1 (List.length (l ++ [sp])) (List.flatMap Stp.cells (l ++ [sp])) Hr1 := by rw [List.length_append, List.flatMap_append]; exact hr1
    refine d_ (q_ rfl (A_ (fun _ a b => ⟨av_ a, b.2.2⟩) (I_ 6 rfl (by kernel_rfl) (a_ (h_ aa_ rfl rfl rfl an_) rfl (d_ (q_ rfl (A_ (fun _ a b => ⟨av_ a, b.2.2⟩) (I_ 7 rfl (by kernel_rfl) (bF_ 2 hq1 an_ rfl rfl rfl rfl ?_)))))))))
    refine d_ (q_ rfl (A_ (fun _ a b => ⟨av_ a, b.2.2⟩) (S_ (by kernel_rfl) (b_ rfl (c_ (a_ (ac_ rfl rfl rfl (aK_ (by omega) (by omega))) rfl (a_ (f_ rfl) rfl (d_ (q_ rfl ?_)))))))))
    exact aO_ ⟨(i + 1, (l ++ [sp]), e1, sv1, Hr1), (by omega), (by rw [List.map_append]; exact cv_ hI (by omega) hs1), he1, (by rw [List.length_append, hll]; rfl), hq1⟩ (by dsimp only; omega) ⟨rfl, rfl, rfl, rfl, rfl, trivial⟩ (N_ (H_ (H_ D_)) (N_ (H_ (H_ D_)) (N_ (H_ D_) aQ_))) (fun v _ h => by exact ⟨h.2.1, ct_ h.2.2.2.1 h.1, trivial⟩)
   ·
    refine a_ (f_ rfl) rfl (d_ (q_ rfl (A_ (fun _ a b => ⟨av_ a, b⟩) ?_)))
    refine bT_ 1 3 rfl rfl (by kernel_rfl) ?_ ?_
    ·
     refine a_ (m_ 0 aV_ rfl rfl rfl) rfl (d_ (q_ rfl (A_ (fun _ a b => ⟨av_ a, b⟩) (I_ 3 rfl (by kernel_rfl) (al_ (fw_ b3 e he) rfl (H_ (H_ D_)) (fun v _ h => by exact ⟨h.1, trivial⟩) rfl (fun hb => eL_ (r := r) ((by rw [dp_, hq1, Option.bind_some, if_pos hn1, du_ hI (by omega) hb]; rfl)) rfl rfl (N_ D_ D_)) fun ⟨⟨sp, e1⟩, hs1, he1⟩ => ?_)))))
     try dsimp only
     refine d_ (q_ rfl (A_ (fun _ a b => ⟨av_ a, b.2.2⟩) (I_ 4 rfl (by kernel_rfl) (aX_ ab_ as_ bc_ rfl rfl rfl rfl rfl rfl fun b5 => ?_))))
     refine d_ (q_ rfl (A_ (fun _ a b => ⟨av_ a, b.2.2⟩) (I_ 5 rfl (by kernel_rfl) (bH_ (news := List.flatMap Stp.cells [sp]) dA_ hr_S rfl rfl (H_ (H_ (H_ aQ_))) rfl (cn_ 0 rfl) (fun u hu => bS_ Stp.cells_one hu) (by simp only [maxLen]; omega) (by omega) rfl fun sv2 Hr2 hr2 => ?_))))
     refine aZ_ List.perm_append_comm ?_
     have hq2 : br_ 36 9 sv2 (List.length (l ++ [sp])) (List.flatMap Stp.cells (l ++ [sp])) Hr2 := by rw [List.length_append, List.flatMap_append]; exact hr2
     refine d_ (q_ rfl (A_ (fun _ a b => ⟨av_ a, b.2.2⟩) (I_ 6 rfl (by kernel_rfl) (a_ (h_ aa_ rfl rfl rfl an_) rfl (d_ (q_ rfl (A_ (fun _ a b => ⟨av_ a, b.2.2⟩) (I_ 7 rfl (by kernel_rfl) (bF_ 2 hq2 an_ rfl rfl rfl rfl ?_)))))))))
     refine d_ (q_ rfl (A_ (fun _ a b => ⟨av_ a, b.2.2⟩) (S_ (by kernel_rfl) (b_ rfl (c_ (a_ (ac_ rfl rfl rfl (aK_ (by omega) (by omega))) rfl (a_ (f_ rfl) rfl (d_ (q_ rfl ?_)))))))))
     exact aO_ ⟨(i + 1, (l ++ [sp]), e1, sv2, Hr2), (by omega), (by rw [List.map_append]; exact cv_ hI (by omega) hs1), he1, (by rw [List.length_append, hll]; rfl), hq2⟩ (by dsimp only; omega) ⟨rfl, rfl, rfl, rfl, rfl, trivial⟩ (N_ (H_ (H_ D_)) (N_ (H_ (H_ D_)) (N_ (H_ D_) aQ_))) (fun v _ h => by exact ⟨h.2.1, ct_ h.2.2.2.1 h.1, trivial⟩)
    ·
     refine al_ (fw_ b3 e he) rfl (H_ (H_ D_)) (fun v _ h => by exact ⟨h.1, trivial⟩) rfl (fun hb => eL_ (r := r) ((by rw [dp_, hq1, Option.bind_some, if_pos hn1, du_ hI (by omega) hb]; rfl)) rfl rfl (N_ D_ D_)) fun ⟨⟨sp, e1⟩, hs1, he1⟩ => ?_
     try dsimp only
     refine d_ (q_ rfl (A_ (fun _ a b => ⟨av_ a, b.2.2⟩) ?_))
     refine bT_ 1 4 rfl rfl (by kernel_rfl) ?_ ?_
     ·
      refine a_ (m_ 1 aV_ rfl rfl rfl) rfl (d_ (q_ rfl (A_ (fun _ a b => ⟨av_ a, b.2.2⟩) (I_ 4 rfl (by kernel_rfl) (aX_ ab_ as_ bc_ rfl rfl rfl rfl rfl rfl fun b6 => ?_)))))
      refine d_ (q_ rfl (A_ (fun _ a b => ⟨av_ a, b.2.2⟩) (I_ 5 rfl (by kernel_rfl) (bH_ (news := List.flatMap Stp.cells [sp]) dA_ hr_S rfl rfl (H_ (H_ (H_ aQ_))) rfl (cn_ 0 rfl) (fun u hu => bS_ Stp.cells_one hu) (by simp only [maxLen]; omega) (by omega) rfl fun sv3 Hr3 hr3 => ?_))))
      refine aZ_ List.perm_append_comm ?_
      have hq3 : br_ 36 9 sv3 (List.length (l ++ [sp])) (List.flatMap Stp.cells (l ++ [sp])) Hr3 := by rw [List.length_append, List.flatMap_append]; exact hr3
      refine d_ (q_ rfl (A_ (fun _ a b => ⟨av_ a, b.2.2⟩) (I_ 6 rfl (by kernel_rfl) (a_ (h_ aa_ rfl rfl rfl an_) rfl (d_ (q_ rfl (A_ (fun _ a b => ⟨av_ a, b.2.2⟩) (I_ 7 rfl (by kernel_rfl) (bF_ 2 hq3 an_ rfl rfl rfl rfl ?_)))))))))
      refine d_ (q_ rfl (A_ (fun _ a b => ⟨av_ a, b.2.2⟩) (S_ (by kernel_rfl) (b_ rfl (c_ (a_ (ac_ rfl rfl rfl (aK_ (by omega) (by omega))) rfl (a_ (f_ rfl) rfl (d_ (q_ rfl ?_)))))))))
      exact aO_ ⟨(i + 1, (l ++ [sp]), e1, sv3, Hr3), (by omega), (by rw [List.map_append]; exact cv_ hI (by omega) hs1), he1, (by rw [List.length_append, hll]; rfl), hq3⟩ (by dsimp only; omega) ⟨rfl, rfl, rfl, rfl, rfl, trivial⟩ (N_ (H_ (H_ D_)) (N_ (H_ (H_ D_)) (N_ (H_ D_) aQ_))) (fun v _ h => by exact ⟨h.2.1, ct_ h.2.2.2.1 h.1, trivial⟩)
     ·
      refine aX_ ab_ as_ bc_ rfl rfl rfl rfl rfl rfl fun b7 => ?_
      refine d_ (q_ rfl (A_ (fun _ a b => ⟨av_ a, b.2.2⟩) (I_ 1 rfl (by kernel_rfl) (a_ (m_ 2 aV_ rfl rfl rfl) rfl (d_ (q_ rfl (A_ (fun _ a b => ⟨av_ a, b.2.2⟩) (I_ 5 rfl (by kernel_rfl) (bH_ (news := List.flatMap Stp.cells [sp]) dA_ hr_S rfl rfl (H_ (H_ (H_ aQ_))) rfl (cn_ 0 rfl) (fun u hu => bS_ Stp.cells_one hu) (by simp only [maxLen]; omega) (by omega) rfl fun sv4 Hr4 hr4 => ?_)))))))))
      refine aZ_ List.perm_append_comm ?_
      have hq4 : br_ 36 9 sv4 (List.length (l ++ [sp])) (List.flatMap Stp.cells (l ++ [sp])) Hr4 := by rw [List.length_append, List.flatMap_append]; exact hr4
      refine d_ (q_ rfl (A_ (fun _ a b => ⟨av_ a, b.2.2⟩) (I_ 6 rfl (by kernel_rfl) (a_ (h_ aa_ rfl rfl rfl an_) rfl (d_ (q_ rfl (A_ (fun _ a b => ⟨av_ a, b.2.2⟩) (I_ 7 rfl (by kernel_rfl) (bF_ 2 hq4 an_ rfl rfl rfl rfl ?_)))))))))
      refine d_ (q_ rfl (A_ (fun _ a b => ⟨av_ a, b.2.2⟩) (S_ (by kernel_rfl) (b_ rfl (c_ (a_ (ac_ rfl rfl rfl (aK_ (by omega) (by omega))) rfl (a_ (f_ rfl) rfl (d_ (q_ rfl ?_)))))))))
      exact aO_ ⟨(i + 1, (l ++ [sp]), e1, sv4, Hr4), (by omega), (by rw [List.map_append]; exact cv_ hI (by omega) hs1), he1, (by rw [List.length_append, hll]; rfl), hq4⟩ (by dsimp only; omega) ⟨rfl, rfl, rfl, rfl, rfl, trivial⟩ (N_ (H_ (H_ D_)) (N_ (H_ (H_ D_)) (N_ (H_ D_) aQ_))) (fun v _ h => by exact ⟨h.2.1, ct_ h.2.2.2.1 h.1, trivial⟩)
  ·
   refine a_ (f_ rfl) rfl (d_ (q_ rfl (A_ (fun _ a b => ⟨av_ a, b⟩) ?_)))
   refine bT_ 0 3 rfl rfl (by kernel_rfl) ?_ ?_
   ·
    refine a_ (h_ aa_ rfl rfl rfl an_) rfl (d_ (q_ rfl (A_ (fun _ a b => ⟨av_ a, b⟩) ?_)))
    refine bT_ 1 3 rfl rfl (by kernel_rfl) ?_ ?_
    ·
     refine a_ (m_ 0 aV_ rfl rfl rfl) rfl (d_ (q_ rfl (A_ (fun _ a b => ⟨av_ a, b⟩) (I_ 3 rfl (by kernel_rfl) (al_ (fw_ b3 e he) rfl (H_ (H_ D_)) (fun v _ h => by exact ⟨h.1, trivial⟩) rfl (fun hb => eL_ (r := r) ((by rw [dp_, hq1, Option.bind_some, if_pos hn1, du_ hI (by omega) hb]; rfl)) rfl rfl (N_ D_ D_)) fun ⟨⟨sp, e1⟩, hs1, he1⟩ => ?_)))))
     try dsimp only
     refine d_ (q_ rfl (A_ (fun _ a b => ⟨av_ a, b.2.2⟩) (I_ 4 rfl (by kernel_rfl) (aX_ ab_ as_ bc_ rfl rfl rfl rfl rfl rfl fun b8 => ?_))))
     refine d_ (q_ rfl (A_ (fun _ a b => ⟨av_ a, b.2.2⟩) (I_ 5 rfl (by kernel_rfl) (bH_ (news := List.flatMap Stp.cells [sp]) dA_ hr_S rfl rfl (H_ (H_ (H_ aQ_))) rfl (cn_ 0 rfl) (fun u hu => bS_ Stp.cells_one hu) (by simp only [maxLen]; omega) (by omega) rfl fun sv5 Hr5 hr5 => ?_))))
     refine aZ_ List.perm_append_comm ?_
     have hq5 : br_ 36 9 sv5 (List.length (l ++ [sp])) (List.flatMap Stp.cells (l ++ [sp])) Hr5 := by rw [List.length_append, List.flatMap_append]; exact hr5
     refine d_ (q_ rfl (A_ (fun _ a b => ⟨av_ a, b.2.2⟩) (I_ 6 rfl (by kernel_rfl) (a_ (h_ aa_ rfl rfl rfl an_) rfl (d_ (q_ rfl (A_ (fun _ a b => ⟨av_ a, b.2.2⟩) (I_ 7 rfl (by kernel_rfl) (bF_ 2 hq5 an_ rfl rfl rfl rfl ?_)))))))))
     refine d_ (q_ rfl (A_ (fun _ a b => ⟨av_ a, b.2.2⟩) (S_ (by kernel_rfl) (b_ rfl (c_ (a_ (ac_ rfl rfl rfl (aK_ (by omega) (by omega))) rfl (a_ (f_ rfl) rfl (d_ (q_ rfl ?_)))))))))
     exact aO_ ⟨(i + 1, (l ++ [sp]), e1, sv5, Hr5), (by omega), (by rw [List.map_append]; exact cv_ hI (by omega) hs1), he1, (by rw [List.length_append, hll]; rfl), hq5⟩ (by dsimp only; omega) ⟨rfl, rfl, rfl, rfl, rfl, trivial⟩ (N_ (H_ (H_ D_)) (N_ (H_ (H_ D_)) (N_ (H_ D_) aQ_))) (fun v _ h => by exact ⟨h.2.1, ct_ h.2.2.2.1 h.1, trivial⟩)
    ·
     refine al_ (fw_ b3 e he) rfl (H_ (H_ D_)) (fun v _ h => by exact ⟨h.1, trivial⟩) rfl (fun hb => eL_ (r := r) ((by rw [dp_, hq1, Option.bind_some, if_pos hn1, du_ hI (by omega) hb]; rfl)) rfl rfl (N_ D_ D_)) fun ⟨⟨sp, e1⟩, hs1, he1⟩ => ?_
     try dsimp only
     refine d_ (q_ rfl (A_ (fun _ a b => ⟨av_ a, b.2.2⟩) ?_))
     refine bT_ 1 4 rfl rfl (by kernel_rfl) ?_ ?_
     ·
      refine a_ (m_ 1 aV_ rfl rfl rfl) rfl (d_ (q_ rfl (A_ (fun _ a b => ⟨av_ a, b.2.2⟩) (I_ 4 rfl (by kernel_rfl) (aX_ ab_ as_ bc_ rfl rfl rfl rfl rfl rfl fun b9 => ?_)))))
      refine d_ (q_ rfl (A_ (fun _ a b => ⟨av_ a, b.2.2⟩) (I_ 5 rfl (by kernel_rfl) (bH_ (news := List.flatMap Stp.cells [sp]) dA_ hr_S rfl rfl (H_ (H_ (H_ aQ_))) rfl (cn_ 0 rfl) (fun u hu => bS_ Stp.cells_one hu) (by simp only [maxLen]; omega) (by omega) rfl fun sv6 Hr6 hr6 => ?_))))
      refine aZ_ List.perm_append_comm ?_
      have hq6 : br_ 36 9 sv6 (List.length (l ++ [sp])) (List.flatMap Stp.cells (l ++ [sp])) Hr6 := by rw [List.length_append, List.flatMap_append]; exact hr6
      refine d_ (q_ rfl (A_ (fun _ a b => ⟨av_ a, b.2.2⟩) (I_ 6 rfl (by kernel_rfl) (a_ (h_ aa_ rfl rfl rfl an_) rfl (d_ (q_ rfl (A_ (fun _ a b => ⟨av_ a, b.2.2⟩) (I_ 7 rfl (by kernel_rfl) (bF_ 2 hq6 an_ rfl rfl rfl rfl ?_)))))))))
      refine d_ (q_ rfl (A_ (fun _ a b => ⟨av_ a, b.2.2⟩) (S_ (by kernel_rfl) (b_ rfl (c_ (a_ (ac_ rfl rfl rfl (aK_ (by omega) (by omega))) rfl (a_ (f_ rfl) rfl (d_ (q_ rfl ?_)))))))))
      exact aO_ ⟨(i + 1, (l ++ [sp]), e1, sv6, Hr6), (by omega), (by rw [List.map_append]; exact cv_ hI (by omega) hs1), he1, (by rw [List.length_append, hll]; rfl), hq6⟩ (by dsimp only; omega) ⟨rfl, rfl, rfl, rfl, rfl, trivial⟩ (N_ (H_ (H_ D_)) (N_ (H_ (H_ D_)) (N_ (H_ D_) aQ_))) (fun v _ h => by exact ⟨h.2.1, ct_ h.2.2.2.1 h.1, trivial⟩)
     ·
      refine aX_ ab_ as_ bc_ rfl rfl rfl rfl rfl rfl fun b10 => ?_
      refine d_ (q_ rfl (A_ (fun _ a b => ⟨av_ a, b.2.2⟩) (I_ 1 rfl (by kernel_rfl) (a_ (m_ 2 aV_ rfl rfl rfl) rfl (d_ (q_ rfl (A_ (fun _ a b => ⟨av_ a, b.2.2⟩) (I_ 5 rfl (by kernel_rfl) (bH_ (news := List.flatMap Stp.cells [sp]) dA_ hr_S rfl rfl (H_ (H_ (H_ aQ_))) rfl (cn_ 0 rfl) (fun u hu => bS_ Stp.cells_one hu) (by simp only [maxLen]; omega) (by omega) rfl fun sv7 Hr7 hr7 => ?_)))))))))
      refine aZ_ List.perm_append_comm ?_
      have hq7 : br_ 36 9 sv7 (List.length (l ++ [sp])) (List.flatMap Stp.cells (l ++ [sp])) Hr7 := by rw [List.length_append, List.flatMap_append]; exact hr7
      refine d_ (q_ rfl (A_ (fun _ a b => ⟨av_ a, b.2.2⟩) (I_ 6 rfl (by kernel_rfl) (a_ (h_ aa_ rfl rfl rfl an_) rfl (d_ (q_ rfl (A_ (fun _ a b => ⟨av_ a, b.2.2⟩) (I_ 7 rfl (by kernel_rfl) (bF_ 2 hq7 an_ rfl rfl rfl rfl ?_)))))))))
      refine d_ (q_ rfl (A_ (fun _ a b => ⟨av_ a, b.2.2⟩) (S_ (by kernel_rfl) (b_ rfl (c_ (a_ (ac_ rfl rfl rfl (aK_ (by omega) (by omega))) rfl (a_ (f_ rfl) rfl (d_ (q_ rfl ?_)))))))))
      exact aO_ ⟨(i + 1, (l ++ [sp]), e1, sv7, Hr7), (by omega), (by rw [List.map_append]; exact cv_ hI (by omega) hs1), he1, (by rw [List.length_append, hll]; rfl), hq7⟩ (by dsimp only; omega) ⟨rfl, rfl, rfl, rfl, rfl, trivial⟩ (N_ (H_ (H_ D_)) (N_ (H_ (H_ D_)) (N_ (H_ D_) aQ_))) (fun v _ h => by exact ⟨h.2.1, ct_ h.2.2.2.1 h.1, trivial⟩)
   ·
    refine al_ (fw_ b3 e he) rfl (H_ (H_ D_)) (fun v _ h => by exact ⟨h.1, trivial⟩) rfl (fun hb => eL_ (r := r) ((by rw [dp_, hq1, Option.bind_some, if_pos hn1, du_ hI (by omega) hb]; rfl)) rfl rfl (N_ D_ D_)) fun ⟨⟨sp, e1⟩, hs1, he1⟩ => ?_
    try dsimp only
    refine d_ (q_ rfl (A_ (fun _ a b => ⟨av_ a, b.2.2⟩) ?_))
    refine bT_ 0 4 rfl rfl (by kernel_rfl) ?_ ?_
    ·
     refine a_ (h_ aa_ rfl rfl rfl an_) rfl (d_ (q_ rfl (A_ (fun _ a b => ⟨av_ a, b.2.2⟩) ?_)))
     refine bT_ 1 4 rfl rfl (by kernel_rfl) ?_ ?_
     ·
      refine a_ (m_ 1 aV_ rfl rfl rfl) rfl (d_ (q_ rfl (A_ (fun _ a b => ⟨av_ a, b.2.2⟩) (I_ 4 rfl (by kernel_rfl) (aX_ ab_ as_ bc_ rfl rfl rfl rfl rfl rfl fun b11 => ?_)))))
      refine d_ (q_ rfl (A_ (fun _ a b => ⟨av_ a, b.2.2⟩) (I_ 5 rfl (by kernel_rfl) (bH_ (news := List.flatMap Stp.cells [sp]) dA_ hr_S rfl rfl (H_ (H_ (H_ aQ_))) rfl (cn_ 0 rfl) (fun u hu => bS_ Stp.cells_one hu) (by simp only [maxLen]; omega) (by omega) rfl fun sv8 Hr8 hr8 => ?_))))
      refine aZ_ List.perm_append_comm ?_
      have hq8 : br_ 36 9 sv8 (List.length (l ++ [sp])) (List.flatMap Stp.cells (l ++ [sp])) Hr8 := by rw [List.length_append, List.flatMap_append]; exact hr8
      refine d_ (q_ rfl (A_ (fun _ a b => ⟨av_ a, b.2.2⟩) (I_ 6 rfl (by kernel_rfl) (a_ (h_ aa_ rfl rfl rfl an_) rfl (d_ (q_ rfl (A_ (fun _ a b => ⟨av_ a, b.2.2⟩) (I_ 7 rfl (by kernel_rfl) (bF_ 2 hq8 an_ rfl rfl rfl rfl ?_)))))))))
      refine d_ (q_ rfl (A_ (fun _ a b => ⟨av_ a, b.2.2⟩) (S_ (by kernel_rfl) (b_ rfl (c_ (a_ (ac_ rfl rfl rfl (aK_ (by omega) (by omega))) rfl (a_ (f_ rfl) rfl (d_ (q_ rfl ?_)))))))))
      exact aO_ ⟨(i + 1, (l ++ [sp]), e1, sv8, Hr8), (by omega), (by rw [List.map_append]; exact cv_ hI (by omega) hs1), he1, (by rw [List.length_append, hll]; rfl), hq8⟩ (by dsimp only; omega) ⟨rfl, rfl, rfl, rfl, rfl, trivial⟩ (N_ (H_ (H_ D_)) (N_ (H_ (H_ D_)) (N_ (H_ D_) aQ_))) (fun v _ h => by exact ⟨h.2.1, ct_ h.2.2.2.1 h.1, trivial⟩)
     ·
      refine aX_ ab_ as_ bc_ rfl rfl rfl rfl rfl rfl fun b12 => ?_
      refine d_ (q_ rfl (A_ (fun _ a b => ⟨av_ a, b.2.2⟩) (I_ 1 rfl (by kernel_rfl) (a_ (m_ 2 aV_ rfl rfl rfl) rfl (d_ (q_ rfl (A_ (fun _ a b => ⟨av_ a, b.2.2⟩) (I_ 5 rfl (by kernel_rfl) (bH_ (news := List.flatMap Stp.cells [sp]) dA_ hr_S rfl rfl (H_ (H_ (H_ aQ_))) rfl (cn_ 0 rfl) (fun u hu => bS_ Stp.cells_one hu) (by simp only [maxLen]; omega) (by omega) rfl fun sv9 Hr9 hr9 => ?_)))))))))
      refine aZ_ List.perm_append_comm ?_
      have hq9 : br_ 36 9 sv9 (List.length (l ++ [sp])) (List.flatMap Stp.cells (l ++ [sp])) Hr9 := by rw [List.length_append, List.flatMap_append]; exact hr9
      refine d_ (q_ rfl (A_ (fun _ a b => ⟨av_ a, b.2.2⟩) (I_ 6 rfl (by kernel_rfl) (a_ (h_ aa_ rfl rfl rfl an_) rfl (d_ (q_ rfl (A_ (fun _ a b => ⟨av_ a, b.2.2⟩) (I_ 7 rfl (by kernel_rfl) (bF_ 2 hq9 an_ rfl rfl rfl rfl ?_)))))))))
      refine d_ (q_ rfl (A_ (fun _ a b => ⟨av_ a, b.2.2⟩) (S_ (by kernel_rfl) (b_ rfl (c_ (a_ (ac_ rfl rfl rfl (aK_ (by omega) (by omega))) rfl (a_ (f_ rfl) rfl (d_ (q_ rfl ?_)))))))))
      exact aO_ ⟨(i + 1, (l ++ [sp]), e1, sv9, Hr9), (by omega), (by rw [List.map_append]; exact cv_ hI (by omega) hs1), he1, (by rw [List.length_append, hll]; rfl), hq9⟩ (by dsimp only; omega) ⟨rfl, rfl, rfl, rfl, rfl, trivial⟩ (N_ (H_ (H_ D_)) (N_ (H_ (H_ D_)) (N_ (H_ D_) aQ_))) (fun v _ h => by exact ⟨h.2.1, ct_ h.2.2.2.1 h.1, trivial⟩)
    ·
     refine aX_ ab_ as_ bc_ rfl rfl rfl rfl rfl rfl fun b13 => ?_
     refine d_ (q_ rfl (A_ (fun _ a b => ⟨av_ a, b.2.2⟩) (I_ 0 rfl (by kernel_rfl) (a_ (h_ aa_ rfl rfl rfl an_) rfl (d_ (q_ rfl (A_ (fun _ a b => ⟨av_ a, b.2.2⟩) (I_ 1 rfl (by kernel_rfl) (a_ (m_ 2 aV_ rfl rfl rfl) rfl ?_)))))))))
     refine d_ (q_ rfl (A_ (fun _ a b => ⟨av_ a, b.2.2⟩) (I_ 5 rfl (by kernel_rfl) (bH_ (news := List.flatMap Stp.cells [sp]) dA_ hr_S rfl rfl (H_ (H_ (H_ aQ_))) rfl (cn_ 0 rfl) (fun u hu => bS_ Stp.cells_one hu) (by simp only [maxLen]; omega) (by omega) rfl fun sv10 Hr10 hr10 => ?_))))
     refine aZ_ List.perm_append_comm ?_
     have hq10 : br_ 36 9 sv10 (List.length (l ++ [sp])) (List.flatMap Stp.cells (l ++ [sp])) Hr10 := by rw [List.length_append, List.flatMap_append]; exact hr10
     refine d_ (q_ rfl (A_ (fun _ a b => ⟨av_ a, b.2.2⟩) (I_ 6 rfl (by kernel_rfl) (a_ (h_ aa_ rfl rfl rfl an_) rfl (d_ (q_ rfl (A_ (fun _ a b => ⟨av_ a, b.2.2⟩) (I_ 7 rfl (by kernel_rfl) (bF_ 2 hq10 an_ rfl rfl rfl rfl ?_)))))))))
     refine d_ (q_ rfl (A_ (fun _ a b => ⟨av_ a, b.2.2⟩) (S_ (by kernel_rfl) (b_ rfl (c_ (a_ (ac_ rfl rfl rfl (aK_ (by omega) (by omega))) rfl (a_ (f_ rfl) rfl (d_ (q_ rfl ?_)))))))))
     exact aO_ ⟨(i + 1, (l ++ [sp]), e1, sv10, Hr10), (by omega), (by rw [List.map_append]; exact cv_ hI (by omega) hs1), he1, (by rw [List.length_append, hll]; rfl), hq10⟩ (by dsimp only; omega) ⟨rfl, rfl, rfl, rfl, rfl, trivial⟩ (N_ (H_ (H_ D_)) (N_ (H_ (H_ D_)) (N_ (H_ D_) aQ_))) (fun v _ h => by exact ⟨h.2.1, ct_ h.2.2.2.1 h.1, trivial⟩)
end Go.Proofs.YtaffcjgphlhppaaGreatDoor
namespace Go.Proofs.YtaffcjgphlhppaaGreatDoor
open Go Go.Sx Go.Proofs
attribute [local irreducible] Code.wp wpList wpAnyH
open Go.Vs
theorem kl_ {α : Type} {l : List α} {i : Nat} {x : α} {P : α → Prop} (h : ∀ z ∈ List.take i l, P z) (hx : l[i]? = some x) (hp : P x) : ∀ z ∈ List.take (i + 1) l, P z := fun z hz => by
  rw [List.take_add_one, hx] at hz
  rcases List.mem_append.1 hz with hz | hz
  · exact h z hz
  · simp only [Option.toList_some, List.mem_singleton] at hz; subst hz; exact hp
theorem hy_ (a b : Str) : Fn0 Tryz.prog 29 #[str a, str b] (Fc.val (aE_ a b)) := by
  refine T_ Tryz.func29 rfl rfl Tryz.ntmps29 rfl fun v0 => ?_
  refine g_ (c_ (ad_ aS_ rfl fun b1 => ?_))
  refine d_ (b_ rfl (g_ (c_ (a_ (f_ rfl) rfl (a_ (f_ rfl) rfl (a_ (ax_ fA_ rfl rfl) rfl (X_ 0 k_ rfl rfl rfl rfl rfl rfl (d_ (b_ rfl ?_)))))))))
  refine u_ ?_
  exact fB_ () (fun aa v h1 h2 => ck_ (us := Fc.cells (aE_ a b)) 0 Tryz.results29 R_ k_ rfl rfl rfl aa v h1 h2) B_ (fun _ _ _ => trivial)
theorem ik_ (a r b : Str) : Fn0 Tryz.prog 28 #[str a, str r, str b] (Fc.val (bq_ a r b)) := by
  refine T_ Tryz.func28 rfl rfl Tryz.ntmps28 rfl fun v0 => ?_
  refine g_ (c_ (ad_ aS_ rfl fun b1 => ?_))
  refine d_ (b_ rfl (g_ (c_ (a_ (f_ rfl) rfl (a_ (f_ rfl) rfl (a_ (f_ rfl) rfl (a_ (ax_ fA_ rfl rfl) rfl (X_ 0 k_ rfl rfl rfl rfl rfl rfl (d_ ?_)))))))))
  refine b_ rfl (u_ ?_)
  exact fB_ () (fun aa v h1 h2 => ck_ (us := Fc.cells (bq_ a r b)) 0 Tryz.results28 R_ k_ rfl rfl rfl aa v h1 h2) B_ (fun _ _ _ => trivial)
theorem mt_ : gy_ Tryz.prog 36 [(0, 1), (1, 6), (7, 1), (8, 1)] [.int .i64 0, .int .i64 0, str [], str [], str [], .int .i64 0, .int .i64 0, .int .i64 0, .slice none 0 0] := ⟨_, bc_, Q_, fun w => by simp [r_, k_, bu_]⟩
theorem fP_ (k : Int) (f : Fc) (l : List Int) (fad : Option Addr) (fcap : Nat) (fs : List Fc) (gad : Option Addr) (gcap : Nat) (w : Int) (hfl : fs.length ≤ 10000000) (hfr : l.length ≤ 1000000) (hfs : ∀ x ∈ fs, x.sml) (hsf : f.sml) (hw : (if df_ [] fs (Stp.mk k f (-1) none 0 l) = true then 0 else 120) = w) : Tri Tryz.prog 30 #[.int .i64 k, Fc.val f, .slice fad (List.length l) fcap, .slice gad (List.length fs) gcap, .int .i64 w] [] [aR_ fad (List.flatMap cV_ l), aR_ gad (List.flatMap Fc.cells fs), iI_] (fun _ : Unit => .bool true) (fun _ => []) (fun _ => []) := by
  refine T_ Tryz.func30 rfl rfl Tryz.ntmps30 rfl fun v0 => ?_
  refine g_ (c_ (aL_ rfl rfl fun b1 => ?_))
  refine a_ (e_ rfl) rfl (d_ (b_ rfl (g_ (c_ (a_ (f_ rfl) rfl (a_ (f_ rfl) rfl (a_ (O_ 0 R_ k_ rfl rfl rfl) rfl (a_ (f_ rfl) rfl (a_ (ax_ mt_ rfl rfl) rfl ?_)))))))))
  refine P_ (step_c [] none 0 fs gad gcap (Stp.mk k f (-1) fad fcap l) (by decide) (fun x hx => by simp at hx) hfl hfr hfs hsf) rfl B_ (fun v _ h => by exact ⟨.inl rfl, h.2.1, h.1, h.2.2.1, trivial⟩) rfl fun ⟨e1, he1⟩ => ?_
  dsimp only
  have hE1 : e1 = w := by rcases he1 with ⟨q, _⟩ | ⟨_, q⟩; exact absurd (by decide +kernel) q; exact q.trans hw
  refine a_ (f_ rfl) rfl (E_ (aC_ rfl rfl) rfl fun r1 hr1 => ?_)
  refine a_ (e_ rfl) rfl (d_ (b_ rfl (u_ ?_)))
  exact Y_ Tryz.results30 () (s_ rfl (by rw [← hr1]; simp [hE1])) B_ (fun _ _ _ => trivial)
theorem kY_ (p : List Pc) (pad : Option Addr) (pcap : Nat) (hp : p.length ≤ 1099511627744) (hbig : ∀ x ∈ p, x.lim) : Tri Tryz.prog 10 #[.slice pad (List.length p) pcap] [] [aR_ pad (List.flatMap Pc.cells p)] (fun b : {b : Bool // b = true → p.length ≤ 60 ∧ ∀ x ∈ p, x.sm} => .bool b.1) (fun _ => []) (fun _ => []) := by
 refine T_ Tryz.func10 rfl rfl Tryz.ntmps10 rfl fun v0 => ?_
 refine g_ (c_ (a_ (e_ rfl) rfl (d_ (b_ rfl (g_ (g_ (c_ (a_ (f_ rfl) rfl (a_ (aB_ aU_ rfl) rfl ?_)))))))))
 refine E_ (bx_ rfl rfl) rfl fun r1 hr1 => ?_
 refine d_ (b_ rfl ?_)
 cases r1
 ·
  replace hr1 := of_decide_eq_false hr1
  refine y_ rfl (L_ (b_ rfl (g_ (g_ (c_ (a_ (e_ rfl) rfl (d_ (b_ rfl (ae_ ?_)))))))))
  refine bz_ (ι := {y : Nat // y ≤ List.length p ∧ (∀ z ∈ List.take y p, z.sm)}) (fun y => [(0, .slice pad (List.length p) pcap), (2, .bool false), (3, .int .i64 (y.1 : Int))]) (fun y => ([])) (fun y => [aR_ pad (List.flatMap Pc.cells p)]) (fun y => List.length p - y.1) ⟨(0 : Nat), by simp, by simp⟩ ⟨rfl, rfl, rfl, trivial⟩ B_ (fun _ _ h => h) ?_
  rintro ⟨i, hi_i, hall⟩
  dsimp only at hi_i hall ⊢
  refine g_ (g_ (c_ (a_ (f_ rfl) rfl (a_ (f_ rfl) rfl (a_ (aB_ aU_ rfl) rfl (E_ (au_ rfl rfl) rfl fun r2 hr2 => ?_))))))
  refine d_ (b_ rfl ?_)
  cases r2
  ·
   replace hr2 := of_decide_eq_false hr2
   refine y_ rfl (bi_ rfl (b_ rfl (g_ (c_ (a_ (e_ rfl) rfl (d_ (b_ rfl (u_ ?_))))))))
   exact Y_ Tryz.results10 ⟨true, fun _ => ⟨by omega, by rwa [List.take_of_length_le (by omega)] at hall⟩⟩ rfl B_ (fun _ _ _ => trivial)
  ·
   replace hr2 := of_decide_eq_true hr2
   have hlx1 : i < List.length p := by omega
   obtain ⟨x1, hx1⟩ : ∃ e0, p[i]? = some e0 := ⟨_, List.getElem?_eq_getElem hlx1⟩
   have hmx1 : x1 ∈ p := List.mem_of_getElem? hx1
   obtain ⟨q1, q2, q3, q4, q5, q6⟩ := hbig x1 hmx1
   refine w_ rfl (L_ (b_ rfl (g_ (ae_ (g_ ?_)))))
   refine aI_ (by kernel_rfl) ?_
   refine K_ 0 [0, 1, 2, 3, 4, 5, 6, 7, 8, 9, 10, 11, 12, 13, 14, 15, 16, 17, 18, 19, 20, 21, 22, 23, 24, 25, 26, 27, 28, 29, 30, 31, 32, 33, 34, 35, 36, 37, 38, 39, 40, 41] (by kernel_rfl) (fun _ a b => ⟨av_ a, b⟩) (j_ rfl (f_ rfl) rfl (j_ rfl (f_ rfl) rfl (j_ rfl (ah_ aU_ ai_ rfl rfl (fun v _ h => aN_ (n := 10) Pc.cells_len (by decide) (by exact h.1) hx1) (by omega) (by first | omega | (simp; done))) rfl (j_ rfl (bL_ M_ rfl rfl rfl x_) rfl (j_ rfl (bj_ (ad := pad) F_ rfl (fun v _ h => by exact h.1) (ak_ Pc.cells_len hx1 1 _ rfl)) rfl (j_ rfl (bG_ W_ rfl) rfl (j_ rfl (f_ rfl) rfl (j_ rfl (f_ rfl) rfl (j_ rfl (ah_ aU_ ai_ rfl rfl (fun v _ h => aN_ (n := 10) Pc.cells_len (by decide) (by exact h.1) hx1) (by omega) (by first | omega | (simp; done))) rfl ?_)))))))))
   refine j_ rfl (bL_ M_ rfl rfl rfl x_) rfl (j_ rfl (bj_ (ad := pad) F_ rfl (fun v _ h => by exact h.1) (ak_ Pc.cells_len hx1 2 _ rfl)) rfl (j_ rfl (bG_ W_ rfl) rfl (j_ rfl (ac_ rfl rfl rfl (aK_ (by omega) (by omega))) rfl (j_ rfl (f_ rfl) rfl (j_ rfl (f_ rfl) rfl (j_ rfl (ah_ aU_ ai_ rfl rfl (fun v _ h => aN_ (n := 10) Pc.cells_len (by decide) (by exact h.1) hx1) (by omega) (by first | omega | (simp; done))) rfl (j_ rfl (bL_ M_ rfl rfl rfl x_) rfl (j_ rfl (bj_ (ad := pad) F_ rfl (fun v _ h => by exact h.1) (ak_ Pc.cells_len hx1 3 _ rfl)) rfl (j_ rfl (bG_ W_ rfl) rfl ?_)))))))))
   refine j_ rfl (ac_ rfl rfl rfl (aK_ (by omega) (by omega))) rfl (j_ rfl (f_ rfl) rfl (j_ rfl (f_ rfl) rfl (j_ rfl (ah_ aU_ ai_ rfl rfl (fun v _ h => aN_ (n := 10) Pc.cells_len (by decide) (by exact h.1) hx1) (by omega) (by first | omega | (simp; done))) rfl (j_ rfl (bL_ M_ rfl rfl rfl x_) rfl (j_ rfl (bj_ (ad := pad) F_ rfl (fun v _ h => by exact h.1) (ak_ Pc.cells_len hx1 4 _ rfl)) rfl (j_ rfl (bG_ W_ rfl) rfl (j_ rfl (ac_ rfl rfl rfl (aK_ (by omega) (by omega))) rfl (j_ rfl (f_ rfl) rfl (j_ rfl (f_ rfl) rfl ?_)))))))))
   refine j_ rfl (ah_ aU_ ai_ rfl rfl (fun v _ h => aN_ (n := 10) Pc.cells_len (by decide) (by exact h.1) hx1) (by omega) (by first | omega | (simp; done))) rfl (j_ rfl (bL_ M_ rfl rfl rfl x_) rfl (j_ rfl (bj_ (ad := pad) F_ rfl (fun v _ h => by exact h.1) (ak_ Pc.cells_len hx1 5 _ rfl)) rfl (j_ rfl (bG_ W_ rfl) rfl (j_ rfl (ac_ rfl rfl rfl (aK_ (by omega) (by omega))) rfl (j_ rfl (f_ rfl) rfl (j_ rfl (f_ rfl) rfl (j_ rfl (ah_ aU_ ai_ rfl rfl (fun v _ h => aN_ (n := 10) Pc.cells_len (by decide) (by exact h.1) hx1) (by omega) (by first | omega | (simp; done))) rfl (j_ rfl (bL_ M_ rfl rfl rfl x_) rfl (j_ rfl (bj_ (ad := pad) F_ rfl (fun v _ h => by exact h.1) (ak_ Pc.cells_len hx1 6 _ rfl)) rfl ?_)))))))))
   refine j_ rfl (bG_ W_ rfl) rfl (j_ rfl (ac_ rfl rfl rfl (aK_ (by omega) (by omega))) rfl ?_)
   refine bk_ rfl (bx_ rfl rfl) rfl fun r3 hr3 => ?_
   refine J_ (S_ (by kernel_rfl) (b_ rfl ?_))
   cases r3
   ·
    replace hr3 := of_decide_eq_false hr3
    refine y_ rfl (L_ (b_ rfl (c_ (a_ (f_ rfl) rfl (a_ (ac_ rfl rfl rfl (aK_ (by omega) (by omega))) rfl (a_ (e_ rfl) rfl (d_ (q_ rfl ?_))))))))
    exact aO_ ⟨i + 1, hlx1, kl_ hall hx1 ⟨by omega, by omega, by omega, by omega, by omega, by omega⟩⟩ (by dsimp only; omega) ⟨rfl, rfl, rfl, trivial⟩ B_ (fun _ _ h => h)
   ·
    replace hr3 := of_decide_eq_true hr3
    refine w_ rfl (g_ (c_ (a_ (e_ rfl) rfl (d_ (b_ rfl (u_ ?_))))))
    exact Y_ Tryz.results10 ⟨false, fun h => by cases h⟩ rfl B_ (fun _ _ _ => trivial)
 ·
  replace hr1 := of_decide_eq_true hr1
  refine w_ rfl (g_ (c_ (a_ (e_ rfl) rfl (d_ (b_ rfl (u_ ?_))))))
  exact Y_ Tryz.results10 ⟨false, fun h => by cases h⟩ rfl B_ (fun _ _ _ => trivial)
theorem oM_ (l : List Stp) (ad : Option Addr) (cap : Nat) (hl : l.length ≤ 1256584717424) (hbig : ∀ s ∈ l, s.fact.lim) : Tri Tryz.prog 11 #[.agg #[.slice ad (List.length l) cap]] [] [aR_ ad (List.flatMap Stp.cells l), cD_ l] (fun b : {b : Bool // b = true → l.length ≤ 60 ∧ ∀ s ∈ l, s.few} => .bool b.1) (fun _ => []) (fun _ => []) := by
 refine T_ Tryz.func11 rfl rfl Tryz.ntmps11 rfl fun v0 => ?_
 refine g_ (c_ (aL_ rfl rfl fun b1 => ?_))
 refine a_ (e_ rfl) rfl (d_ (b_ rfl (g_ (g_ (c_ (a_ (h_ aa_ rfl rfl rfl an_) rfl (a_ (m_ 0 aV_ rfl rfl rfl) rfl (a_ (aB_ ab_ rfl) rfl (E_ (bx_ rfl rfl) rfl fun r1 hr1 => ?_)))))))))
 refine d_ (b_ rfl ?_)
 cases r1
 ·
  replace hr1 := of_decide_eq_false hr1
  refine y_ rfl (L_ (b_ rfl (g_ (g_ (c_ (a_ (e_ rfl) rfl (d_ (b_ rfl (ae_ ?_)))))))))
  refine bz_ (ι := {y : Nat // y ≤ List.length l ∧ (∀ z ∈ List.take y l, Stp.few z)}) (fun y => [(1, zp_ b1 0), (2, .bool false), (3, .int .i64 (y.1 : Int))]) (fun y => ((b1, .cells #[.slice ad (List.length l) cap] 27 (0, 0)) :: [])) (fun y => [aR_ ad (List.flatMap Stp.cells l), cD_ l]) (fun y => List.length l - y.1) ⟨(0 : Nat), by simp, by simp⟩ ⟨rfl, rfl, rfl, trivial⟩ D_ (fun _ _ h => h) ?_
  rintro ⟨i, hi_i, hall⟩
  dsimp only at hi_i hall ⊢
  refine g_ (g_ (c_ (a_ (f_ rfl) rfl (a_ (h_ aa_ rfl rfl rfl an_) rfl (a_ (m_ 0 aV_ rfl rfl rfl) rfl (a_ (aB_ ab_ rfl) rfl (E_ (au_ rfl rfl) rfl fun r2 hr2 => ?_)))))))
  refine d_ (b_ rfl ?_)
  cases r2
  ·
   replace hr2 := of_decide_eq_false hr2
   refine y_ rfl (bi_ rfl (b_ rfl (g_ (c_ (a_ (e_ rfl) rfl (d_ (b_ rfl (u_ ?_))))))))
   exact Y_ Tryz.results11 ⟨true, fun _ => ⟨by omega, by rwa [List.take_of_length_le (by omega)] at hall⟩⟩ rfl B_ (fun _ _ _ => trivial)
  ·
   replace hr2 := of_decide_eq_true hr2
   have hlx1 : i < List.length l := by omega
   obtain ⟨x1, hx1⟩ : ∃ e0, l[i]? = some e0 := ⟨_, List.getElem?_eq_getElem hlx1⟩
   have hmx1 : x1 ∈ l := List.mem_of_getElem? hx1
   obtain ⟨q1, q2, q3⟩ := hbig x1 hmx1
   refine w_ rfl (L_ (b_ rfl (g_ (ae_ (g_ (c_ (a_ (h_ aa_ rfl rfl rfl an_) rfl (a_ (m_ 0 aV_ rfl rfl rfl) rfl (a_ (f_ rfl) rfl ?_)))))))))
   refine a_ (ah_ ab_ as_ rfl rfl (fun v _ h => aN_ (n := 9) Stp.cells_len (by decide) (by exact h.1) hx1) (by omega) (by first | omega | (simp; done))) rfl (a_ (aM_ (ad := ad) (us := Stp.cells x1) cx_ as_ rfl (fun v _ h => by exact h.1) (Stp.cells_len _) (ak_ Stp.cells_len hx1)) rfl (ad_ bc_ rfl fun b2 => ?_))
   refine X_ 0 as_ rfl rfl rfl rfl rfl rfl (d_ (b_ rfl (g_ (c_ (a_ (h_ Q_ rfl rfl rfl bu_) rfl (a_ (m_ 0 cb_ rfl rfl rfl) rfl (a_ (aB_ az_ rfl) rfl (E_ (bx_ rfl rfl) rfl fun r3 hr3 => ?_))))))))
   refine a_ (f_ rfl) rfl ?_
   cases r3
   ·
    replace hr3 := of_decide_eq_false hr3
    refine l_ rfl rfl (a_ (h_ Q_ rfl rfl rfl k_) rfl (l_ rfl rfl (a_ (h_ o_ rfl rfl rfl x_) rfl (l_ rfl rfl (a_ (m_ 0 F_ rfl rfl rfl) rfl (l_ rfl rfl (a_ (bG_ W_ rfl) rfl (l_ rfl rfl (a_ (h_ Q_ rfl rfl rfl k_) rfl ?_)))))))))
    refine l_ rfl rfl (a_ (h_ o_ rfl rfl rfl x_) rfl (l_ rfl rfl (a_ (m_ 0 F_ rfl rfl rfl) rfl (l_ rfl rfl (a_ (bG_ W_ rfl) rfl (l_ rfl rfl (a_ (ac_ rfl rfl rfl (aK_ (by omega) (by omega))) rfl (l_ rfl rfl (a_ (h_ Q_ rfl rfl rfl k_) rfl ?_)))))))))
    refine l_ rfl rfl (a_ (h_ o_ rfl rfl rfl x_) rfl (l_ rfl rfl (a_ (m_ 0 F_ rfl rfl rfl) rfl (l_ rfl rfl (a_ (bG_ W_ rfl) rfl (l_ rfl rfl (a_ (ac_ rfl rfl rfl (aK_ (by omega) (by omega))) rfl (l_ rfl rfl (E_ (bx_ rfl rfl) rfl fun r4 hr4 => ?_)))))))))
    refine a_ (t_ rfl rfl) rfl (d_ (b_ rfl ?_))
    cases r4
    ·
     replace hr4 := of_decide_eq_false hr4
     refine y_ rfl (L_ (b_ rfl (c_ (a_ (f_ rfl) rfl (a_ (ac_ rfl rfl rfl (aK_ (by omega) (by omega))) rfl (a_ (e_ rfl) rfl (d_ (q_ rfl ?_))))))))
     exact aO_ ⟨i + 1, hlx1, kl_ hall hx1 ⟨by omega, by omega⟩⟩ (by dsimp only; omega) ⟨rfl, rfl, rfl, trivial⟩ (H_ D_) (fun _ _ h => h)
    ·
     replace hr4 := of_decide_eq_true hr4
     refine w_ rfl (g_ (c_ (a_ (e_ rfl) rfl (d_ (b_ rfl (u_ ?_))))))
     exact Y_ Tryz.results11 ⟨false, fun h => by cases h⟩ rfl B_ (fun _ _ _ => trivial)
   ·
    replace hr3 := of_decide_eq_true hr3
    refine n_ rfl rfl rfl rfl (n_ rfl rfl rfl rfl (n_ rfl rfl rfl rfl (n_ rfl rfl rfl rfl (n_ rfl rfl rfl rfl (n_ rfl rfl rfl rfl (n_ rfl rfl rfl rfl (n_ rfl rfl rfl rfl (n_ rfl rfl rfl rfl (n_ rfl rfl rfl rfl ?_)))))))))
    refine n_ rfl rfl rfl rfl (n_ rfl rfl rfl rfl (n_ rfl rfl rfl rfl (n_ rfl rfl rfl rfl (n_ rfl rfl rfl rfl (a_ (z_ rfl rfl) rfl (d_ (b_ rfl (w_ rfl (g_ ?_)))))))))
    refine c_ (a_ (e_ rfl) rfl (d_ (b_ rfl (u_ ?_))))
    exact Y_ Tryz.results11 ⟨false, fun h => by cases h⟩ rfl B_ (fun _ _ _ => trivial)
 ·
  replace hr1 := of_decide_eq_true hr1
  refine w_ rfl (g_ (c_ (a_ (e_ rfl) rfl (d_ (b_ rfl (u_ ?_))))))
  exact Y_ Tryz.results11 ⟨false, fun h => by cases h⟩ rfl B_ (fun _ _ _ => trivial)
theorem oj_ (Y : List Stp) (yad : Option Addr) (ycap : Nat) (Z : List Stp) (zad : Option Addr) (zcap : Nat) (hS : SameS Y Z) (hl : Y.length ≤ 1000000) (hfl : ∀ s ∈ Y, s.frm.length ≤ 1000000) : Tri Tryz.prog 18 #[.agg #[.slice yad (List.length Y) ycap], .agg #[.slice zad (List.length Z) zcap]] [] [aR_ yad (List.flatMap Stp.cells Y), cD_ Y, aR_ zad (List.flatMap Stp.cells Z), cD_ Z] (fun _ : Unit => .bool true) (fun _ => []) (fun _ => []) := by
 refine T_ Tryz.func18 rfl rfl Tryz.ntmps18 rfl fun v0 => ?_
 have hlen := hS.len
 refine g_ (c_ (aL_ rfl rfl fun b1 => ?_))
 refine aL_ rfl rfl fun b2 => ?_
 refine a_ (e_ rfl) rfl (d_ (b_ rfl (g_ (g_ (c_ (a_ (h_ aa_ rfl rfl rfl an_) rfl (a_ (m_ 1 aV_ rfl rfl rfl) rfl (a_ (aB_ ab_ rfl) rfl (a_ (h_ aa_ rfl rfl rfl an_) rfl ?_)))))))))
 refine a_ (m_ 0 aV_ rfl rfl rfl) rfl (a_ (aB_ ab_ rfl) rfl (E_ (bw_ rfl rfl) rfl fun r1 hr1 => ?_))
 refine d_ (b_ rfl ?_)
 cases r1
 ·
  replace hr1 := bt_ hr1
  refine y_ rfl (L_ (b_ rfl (g_ (g_ (c_ (a_ (e_ rfl) rfl (d_ (b_ rfl (ae_ ?_)))))))))
  refine bz_ (ι := {y : Nat // y ≤ List.length Y}) (fun y => [(2, zp_ b1 0), (3, zp_ b2 0), (4, .bool false), (5, .int .i64 (y.1 : Int))]) (fun y => ((b2, .cells #[.slice zad (List.length Z) zcap] 27 (0, 0)) :: ((b1, .cells #[.slice yad (List.length Y) ycap] 27 (0, 0)) :: []))) (fun y => [aR_ yad (List.flatMap Stp.cells Y), cD_ Y, aR_ zad (List.flatMap Stp.cells Z), cD_ Z]) (fun y => List.length Y - y.1) ⟨(0 : Nat), by simp⟩ ⟨rfl, rfl, rfl, rfl, trivial⟩ (N_ D_ D_) (fun _ _ h => h) ?_
  rintro ⟨i, hi_i⟩
  dsimp only at hi_i ⊢
  refine g_ (g_ (c_ (a_ (f_ rfl) rfl (a_ (h_ aa_ rfl rfl rfl an_) rfl (a_ (m_ 1 aV_ rfl rfl rfl) rfl (a_ (aB_ ab_ rfl) rfl (E_ (au_ rfl rfl) rfl fun r2 hr2 => ?_)))))))
  refine d_ (b_ rfl ?_)
  cases r2
  ·
   replace hr2 := of_decide_eq_false hr2
   refine y_ rfl (bi_ rfl (b_ rfl (g_ (c_ (a_ (e_ rfl) rfl (d_ (b_ rfl (u_ ?_))))))))
   exact Y_ Tryz.results18 () rfl B_ (fun _ _ _ => trivial)
  ·
   replace hr2 := of_decide_eq_true hr2
   have hlx1 : i < List.length Y := by omega
   obtain ⟨x1, hx1⟩ : ∃ e0, Y[i]? = some e0 := ⟨_, List.getElem?_eq_getElem hlx1⟩
   have hmx1 : x1 ∈ Y := List.mem_of_getElem? hx1
   have hlz : i < List.length Z := by have := hS.len; omega
   have hly1 : i < List.length Z := hlz
   obtain ⟨y1, hy1⟩ : ∃ e0, Z[i]? = some e0 := ⟨_, List.getElem?_eq_getElem hly1⟩
   have hmy1 : y1 ∈ Z := List.mem_of_getElem? hy1
   obtain ⟨he1, he2, he3, he4⟩ := hS.eq i x1 y1 hx1 hy1
   have hf1 := hfl x1 hmx1
   refine w_ rfl (L_ (b_ rfl (g_ (ae_ (g_ (c_ (a_ (h_ aa_ rfl rfl rfl an_) rfl (a_ (m_ 1 aV_ rfl rfl rfl) rfl (a_ (f_ rfl) rfl ?_)))))))))
   refine a_ (ah_ ab_ as_ rfl rfl (fun v _ h => aN_ (n := 9) Stp.cells_len (by decide) (by exact h.1) hx1) (by omega) (by first | omega | (simp; done))) rfl (a_ (aM_ (ad := yad) (us := Stp.cells x1) cx_ as_ rfl (fun v _ h => by exact h.1) (Stp.cells_len _) (ak_ Stp.cells_len hx1)) rfl (ad_ bc_ rfl fun b3 => ?_))
   refine X_ 0 as_ rfl rfl rfl rfl rfl rfl (d_ (b_ rfl (g_ (c_ (a_ (h_ aa_ rfl rfl rfl an_) rfl (a_ (m_ 1 aV_ rfl rfl rfl) rfl (a_ (f_ rfl) rfl (a_ (ah_ ab_ as_ rfl rfl (fun v _ h => aN_ (n := 9) Stp.cells_len (by decide) (by exact h.2.2.1) hy1) (by omega) (by first | omega | (simp; done))) rfl (a_ (aM_ (ad := zad) (us := Stp.cells y1) cx_ as_ rfl (fun v _ h => by exact h.2.2.1) (Stp.cells_len _) (ak_ Stp.cells_len hy1)) rfl ?_)))))))))
   refine ad_ bc_ rfl fun b4 => ?_
   refine X_ 0 as_ rfl rfl rfl rfl rfl rfl (d_ (b_ rfl (g_ (g_ (c_ (a_ (h_ Q_ rfl rfl rfl r_) rfl (a_ (m_ 1 C_ rfl rfl rfl) rfl (a_ (h_ Q_ rfl rfl rfl r_) rfl (a_ (m_ 0 C_ rfl rfl rfl) rfl ?_)))))))))
   refine E_ (bw_ rfl rfl) rfl fun r3 hr3 => ?_
   refine a_ (f_ rfl) rfl ?_
   cases r3
   ·
    replace hr3 := bt_ hr3
    refine l_ rfl rfl (a_ (h_ Q_ rfl rfl rfl k_) rfl (l_ rfl rfl (a_ (O_ 1 R_ k_ rfl rfl rfl) rfl (l_ rfl rfl (a_ (h_ Q_ rfl rfl rfl k_) rfl (l_ rfl rfl (a_ (O_ 0 R_ k_ rfl rfl rfl) rfl (l_ rfl rfl (E_ (hR_ (p := (Stp.fact x1)) (q := (Stp.fact y1)) rfl rfl) rfl fun r4 hr4 => ?_)))))))))
    refine a_ (t_ rfl rfl) rfl (a_ (f_ rfl) rfl ?_)
    cases r4
    ·
     replace hr4 := of_decide_eq_false hr4
     refine l_ rfl rfl (a_ (h_ Q_ rfl rfl rfl r_) rfl (l_ rfl rfl (a_ (m_ 1 C_ rfl rfl rfl) rfl (l_ rfl rfl (a_ (h_ Q_ rfl rfl rfl r_) rfl (l_ rfl rfl (a_ (m_ 0 C_ rfl rfl rfl) rfl (l_ rfl rfl (E_ (bw_ rfl rfl) rfl fun r5 hr5 => ?_)))))))))
     refine a_ (t_ rfl rfl) rfl (a_ (f_ rfl) rfl ?_)
     cases r5
     ·
      replace hr5 := bt_ hr5
      refine l_ rfl rfl (a_ (h_ Q_ rfl rfl rfl bu_) rfl (l_ rfl rfl (a_ (m_ 1 cb_ rfl rfl rfl) rfl (l_ rfl rfl (a_ (aB_ az_ rfl) rfl (l_ rfl rfl (a_ (h_ Q_ rfl rfl rfl bu_) rfl (l_ rfl rfl (a_ (m_ 0 cb_ rfl rfl rfl) rfl ?_)))))))))
      refine l_ rfl rfl (a_ (aB_ az_ rfl) rfl (l_ rfl rfl (E_ (bw_ rfl rfl) rfl fun r6 hr6 => ?_)))
      refine a_ (t_ rfl rfl) rfl (d_ (b_ rfl ?_))
      cases r6
      ·
       replace hr6 := bt_ hr6
       refine y_ rfl (L_ (b_ rfl (g_ (c_ (a_ (e_ rfl) rfl (d_ (b_ rfl (ae_ ?_))))))))
       refine bz_ (ι := {y : Nat // y ≤ List.length (Stp.frm x1)}) (fun y => [(2, zp_ b1 0), (3, zp_ b2 0), (4, .bool false), (5, .int .i64 (i : Int)), (6, zp_ b3 0), (7, zp_ b4 0), (8, .int .i64 (y.1 : Int))]) (fun y => ((b4, .cells #[.int .i64 (Stp.rule y1), .int .i64 (Fc.kind (Stp.fact y1)), str (Fc.a (Stp.fact y1)), str (Fc.b (Stp.fact y1)), str (Fc.r (Stp.fact y1)), .int .i64 (Fc.lo (Stp.fact y1)), .int .i64 (Fc.hi (Stp.fact y1)), .int .i64 (Stp.piece y1), .slice (Stp.ad y1) (List.length (Stp.frm y1)) (Stp.cap y1)] 36 (0, 0)) :: ((b3, .cells #[.int .i64 (Stp.rule x1), .int .i64 (Fc.kind (Stp.fact x1)), str (Fc.a (Stp.fact x1)), str (Fc.b (Stp.fact x1)), str (Fc.r (Stp.fact x1)), .int .i64 (Fc.lo (Stp.fact x1)), .int .i64 (Fc.hi (Stp.fact x1)), .int .i64 (Stp.piece x1), .slice (Stp.ad x1) (List.length (Stp.frm x1)) (Stp.cap x1)] 36 (0, 0)) :: ((b2, .cells #[.slice zad (List.length Z) zcap] 27 (0, 0)) :: ((b1, .cells #[.slice yad (List.length Y) ycap] 27 (0, 0)) :: []))))) (fun y => [aR_ yad (List.flatMap Stp.cells Y), cD_ Y, aR_ zad (List.flatMap Stp.cells Z), cD_ Z]) (fun y => List.length (Stp.frm x1) - y.1) ⟨(0 : Nat), by simp⟩ ⟨rfl, rfl, rfl, rfl, rfl, rfl, rfl, trivial⟩ (N_ D_ (N_ D_ (N_ D_ D_))) (fun _ _ h => h) ?_
       rintro ⟨j, hi_j⟩
       dsimp only at hi_j ⊢
       refine g_ (g_ (c_ (a_ (f_ rfl) rfl (a_ (h_ Q_ rfl rfl rfl bu_) rfl (a_ (m_ 1 cb_ rfl rfl rfl) rfl (a_ (aB_ az_ rfl) rfl (E_ (au_ rfl rfl) rfl fun r7 hr7 => ?_)))))))
       refine d_ (b_ rfl ?_)
       cases r7
       ·
        replace hr7 := of_decide_eq_false hr7
        refine y_ rfl (bi_ rfl (b_ rfl (c_ (a_ (f_ rfl) rfl (a_ (ac_ rfl rfl rfl (aK_ (by omega) (by omega))) rfl (a_ (e_ rfl) rfl (d_ (q_ rfl ?_))))))))
        exact aO_ ⟨i + 1, hlx1⟩ (by dsimp only; omega) ⟨rfl, rfl, rfl, rfl, trivial⟩ (N_ (H_ (H_ D_)) (H_ (H_ D_))) (fun _ _ h => h)
       ·
        replace hr7 := of_decide_eq_true hr7
        have hlx2 : j < List.length (Stp.frm x1) := by omega
        obtain ⟨x2, hx2⟩ : ∃ e0, (Stp.frm x1)[j]? = some e0 := ⟨_, List.getElem?_eq_getElem hlx2⟩
        have hmx2 : x2 ∈ (Stp.frm x1) := List.mem_of_getElem? hx2
        have hy2 : (Stp.frm y1)[j]? = some x2 := he4 ▸ hx2
        have hly2 : j < List.length (Stp.frm y1) := by rw [← he4]; omega
        refine w_ rfl (L_ (b_ rfl (g_ (ae_ (g_ ?_)))))
        refine aI_ (by kernel_rfl) ?_
        refine K_ 0 [0, 1, 2, 3, 4, 5, 6, 7, 8, 9, 10] (by kernel_rfl) (fun _ a b => ⟨a, b⟩) (j_ rfl (h_ Q_ rfl rfl rfl bu_) rfl (j_ rfl (m_ 1 cb_ rfl rfl rfl) rfl (j_ rfl (f_ rfl) rfl (j_ rfl (ah_ az_ r_ rfl rfl (fun v _ h => aN_ (n := 1) cS_ (by decide) (by exact (h.2.1 x1 hmx1)) hx2) (by omega) (by first | omega | (simp; done))) rfl (j_ rfl (bj_ (ad := (Stp.ad x1)) C_ rfl (fun v _ h => by exact (h.2.1 x1 hmx1)) (ak_ cS_ hx2 0 _ rfl)) rfl (j_ rfl (h_ Q_ rfl rfl rfl bu_) rfl (j_ rfl (m_ 0 cb_ rfl rfl rfl) rfl (j_ rfl (f_ rfl) rfl (j_ rfl (ah_ az_ r_ rfl rfl (fun v _ h => aN_ (n := 1) cS_ (by decide) (by exact (h.2.2.2.1 y1 hmy1)) hy2) (by omega) (by first | omega | (simp; done))) rfl ?_)))))))))
        refine j_ rfl (bj_ (ad := (Stp.ad y1)) C_ rfl (fun v _ h => by exact (h.2.2.2.1 y1 hmy1)) (ak_ cS_ hy2 0 _ rfl)) rfl ?_
        refine bk_ rfl (bw_ rfl rfl) rfl fun r8 hr8 => ?_
        refine J_ (S_ (by kernel_rfl) (b_ rfl ?_))
        cases r8
        ·
         replace hr8 := bt_ hr8
         refine y_ rfl (L_ (b_ rfl (c_ (a_ (f_ rfl) rfl (a_ (ac_ rfl rfl rfl (aK_ (by omega) (by omega))) rfl (a_ (e_ rfl) rfl (d_ (q_ rfl ?_))))))))
         exact aO_ ⟨j + 1, hlx2⟩ (by dsimp only; omega) ⟨rfl, rfl, rfl, rfl, rfl, rfl, rfl, trivial⟩ (N_ D_ (N_ D_ (N_ D_ D_))) (fun _ _ h => h)
        ·
         replace hr8 := bs_ hr8
         first | exact absurd he1 hr8 | exact absurd he2 hr8 | exact absurd he3 hr8 | exact absurd rfl hr8 | (exfalso; rw [he4] at hr8; exact hr8 rfl)
      ·
       replace hr6 := bs_ hr6
       first | exact absurd he1 hr6 | exact absurd he2 hr6 | exact absurd he3 hr6 | exact absurd rfl hr6 | (exfalso; rw [he4] at hr6; exact hr6 rfl)
     ·
      replace hr5 := bs_ hr5
      first | exact absurd he1 hr5 | exact absurd he2 hr5 | exact absurd he3 hr5 | exact absurd rfl hr5 | (exfalso; rw [he4] at hr5; exact hr5 rfl)
    ·
     replace hr4 := of_decide_eq_true hr4
     first | exact absurd he1 hr4 | exact absurd he2 hr4 | exact absurd he3 hr4 | exact absurd rfl hr4 | (exfalso; rw [he4] at hr4; exact hr4 rfl)
   ·
    replace hr3 := bs_ hr3
    first | exact absurd he1 hr3 | exact absurd he2 hr3 | exact absurd he3 hr3 | exact absurd rfl hr3 | (exfalso; rw [he4] at hr3; exact hr3 rfl)
 ·
  replace hr1 := bs_ hr1
  exact absurd (congrArg Nat.cast hS.len) hr1
end Go.Proofs.YtaffcjgphlhppaaGreatDoor
namespace Go.Proofs.YtaffcjgphlhppaaGreatDoor
open Go Go.Sx Go.Proofs
attribute [local irreducible] Code.wp wpList wpAnyH
open Go.Vs
theorem ok_ax7 : Ax.ok (Ax.mk 7 false (Con.mk 0 [] 0 0 none 0 []) (Con.mk 0 [] 0 0 none 0 []) none 0 [] [114] [] []) := by constructor <;> simp [Con.ok, Con.ok.oks]
theorem nu_ : Ax.check (Ax.mk 7 false (Con.mk 0 [] 0 0 none 0 []) (Con.mk 0 [] 0 0 none 0 []) none 0 [] [114] [] []) = 0 := by decide +kernel
theorem op_ {v : Vw} : (Ax.memF (Ax.mk 7 false (Con.mk 0 [] 0 0 none 0 []) (Con.mk 0 [] 0 0 none 0 []) none 0 [] [114] [] [])).p v := ⟨⟨.inl rfl, trivial⟩, ⟨.inl rfl, trivial⟩, .inl rfl⟩
theorem oK_ (x : Ax) (hok : x.ok) (hc : x.check = 0) (hk : x.kind = 7) : Tri Tryz.prog 26 #[Ax.val x] [] [Ax.memF x, gn_] (fun _ : Unit => .tuple #[.slice none 0 0, .slice none 0 0, .int .i64 22]) (fun _ => []) (fun _ => []) := by
 refine T_ Tryz.func26 rfl rfl Tryz.ntmps26 rfl fun v0 => ?_
 refine g_ (c_ (aL_ rfl rfl fun b1 => ?_))
 refine a_ (e_ rfl) rfl (a_ (e_ rfl) rfl (a_ (e_ rfl) rfl (d_ (b_ rfl (g_ (g_ (c_ (a_ (O_ 0 Tryz.isAgg58 Tryz.sizeOf58 rfl rfl rfl) rfl (P_ (jg_ x hok) rfl B_ (fun v _ h => by exact ⟨h.1, h.2.1, trivial⟩) rfl fun _ => ?_)))))))))
 refine a_ (e_ rfl) rfl (d_ (b_ rfl (g_ (c_ (a_ (f_ rfl) rfl (E_ (bw_ rfl rfl) rfl fun r1 hr1 => ?_))))))
 refine d_ (b_ rfl ?_)
 cases r1
 ·
  replace hr1 := bt_ hr1
  refine y_ rfl (L_ (b_ rfl (g_ (c_ (P_ (hu_ (-1)) rfl B_ (fun _ _ _ => by exact trivial) rfl fun ⟨kb, bm0⟩ => ?_)))))
  dsimp only
  refine aZ_ (@List.perm_append_comm _ _ [_]) (a_ (e_ rfl) rfl (d_ (b_ rfl (g_ (c_ (a_ (f_ rfl) rfl (P_ (od_ kb) rfl B_ (fun _ _ _ => by exact trivial) rfl fun ⟨bk, bl, br⟩ => ?_)))))))
  dsimp only
  refine a_ (f_ rfl) rfl (a_ (aH_ rfl rfl) rfl (a_ (aH_ rfl rfl) rfl (a_ (e_ rfl) rfl (a_ (e_ rfl) rfl (d_ (b_ rfl (g_ (c_ (a_ (e_ rfl) rfl ?_)))))))))
  refine d_ (b_ rfl (g_ (g_ (c_ (a_ (h_ U_ rfl rfl rfl r_) rfl (a_ (m_ 0 C_ rfl rfl rfl) rfl (d_ (b_ rfl (ae_ ?_)))))))))
  refine g_ (g_ (c_ (E_ (aC_ rfl rfl) rfl fun r2 hr2 => ?_)))
  refine a_ (e_ rfl) rfl (d_ (b_ rfl ?_))
  cases r2
  ·
   replace hr2 := ne_of_beq_false hr2
   refine y_ rfl (c_ (E_ (aC_ rfl rfl) rfl fun r3 hr3 => ?_))
   refine a_ (e_ rfl) rfl (d_ (b_ rfl ?_))
   cases r3
   ·
    replace hr3 := ne_of_beq_false hr3
    refine y_ rfl (g_ (c_ (E_ (aC_ rfl rfl) rfl fun r4 hr4 => ?_)))
    refine a_ (e_ rfl) rfl (d_ (b_ rfl ?_))
    cases r4
    ·
     replace hr4 := ne_of_beq_false hr4
     refine y_ rfl (g_ (c_ (E_ (aC_ rfl rfl) rfl fun r5 hr5 => ?_)))
     refine a_ (e_ rfl) rfl (d_ (b_ rfl ?_))
     cases r5
     ·
      replace hr5 := ne_of_beq_false hr5
      refine y_ rfl (g_ (c_ (E_ (aC_ rfl rfl) rfl fun r6 hr6 => ?_)))
      refine a_ (e_ rfl) rfl (d_ (b_ rfl ?_))
      cases r6
      ·
       replace hr6 := ne_of_beq_false hr6
       refine y_ rfl (g_ (c_ (E_ (aC_ rfl rfl) rfl fun r7 hr7 => ?_)))
       refine a_ (e_ rfl) rfl (d_ (b_ rfl ?_))
       cases r7
       ·
        replace hr7 := ne_of_beq_false hr7
        refine y_ rfl (g_ (c_ (a_ (e_ rfl) rfl (a_ (e_ rfl) rfl (a_ (e_ rfl) rfl (d_ (b_ rfl (u_ ?_))))))))
        exact mK_ Tryz.results26 () rfl rfl rfl rfl B_ (fun _ _ _ => trivial)
       ·
        replace hr7 := eq_of_beq hr7
        exfalso; omega
      ·
       replace hr6 := eq_of_beq hr6
       exfalso; omega
     ·
      replace hr5 := eq_of_beq hr5
      exfalso; omega
    ·
     replace hr4 := eq_of_beq hr4
     exfalso; omega
   ·
    replace hr3 := eq_of_beq hr3
    exfalso; omega
  ·
   replace hr2 := eq_of_beq hr2
   exfalso; omega
 ·
  replace hr1 := bs_ hr1
  exact absurd hc hr1
theorem lE_ : Tri Tryz.prog 25 #[.slice none 0 0] [] [] (fun _ : Unit => .tuple #[.slice none 0 0, .int .i64 0]) (fun _ => []) (fun _ => []) := by
  refine T_ Tryz.func25 rfl rfl Tryz.ntmps25 rfl fun v0 => ?_
  refine g_ (c_ (a_ (e_ rfl) rfl (a_ (e_ rfl) rfl (d_ (b_ rfl (g_ (g_ (c_ (a_ (f_ rfl) rfl ?_)))))))))
  refine a_ (aB_ Tryz.runUnderlying53 rfl) rfl (a_ (bW_ (bx_ rfl rfl) (show _ = Value.bool false from congrArg Value.bool (by decide))) rfl (d_ (b_ rfl (y_ rfl (L_ (b_ rfl (g_ (g_ (c_ ?_)))))))))
  refine a_ (f_ rfl) rfl (a_ (aB_ Tryz.runUnderlying53 rfl) rfl (a_ (f_ rfl) rfl (d_ (b_ rfl (ae_ ?_)))))
  refine bz_ (ι := {y : Nat // y ≤ List.length ([] : List Ax)}) (fun y => [(0, .slice none 0 0), (2, .slice none 0 0), (3, .int .i64 0), (13, .slice none 0 0), (14, .int .i64 0), (15, .int .i64 (y.1 : Int))]) (fun y => ([])) (fun y => []) (fun y => List.length ([] : List Ax) - y.1) ⟨(0 : Nat), by simp⟩ ⟨rfl, rfl, rfl, rfl, rfl, rfl, trivial⟩ B_ (fun _ _ _ => trivial) ?_
  rintro ⟨i, hi_i⟩
  dsimp only at hi_i ⊢
  refine g_ (c_ (E_ (au_ rfl rfl) rfl fun r1 hr1 => ?_))
  refine d_ (b_ rfl (g_ ?_))
  cases r1
  · skip
    replace hr1 := of_decide_eq_false hr1
    refine y_ rfl (bi_ rfl (b_ rfl (g_ (g_ (c_ (a_ (f_ rfl) rfl (a_ (aB_ Tryz.runUnderlying53 rfl) rfl (a_ (f_ rfl) rfl (d_ ?_)))))))))
    refine b_ rfl (ae_ ?_)
    refine bz_ (ι := {y : Nat // y ≤ List.length ([] : List Ax)}) (fun y => [(0, .slice none 0 0), (2, .slice none 0 0), (3, .int .i64 0), (25, .slice none 0 0), (26, .int .i64 0), (27, .int .i64 (y.1 : Int))]) (fun y => ([])) (fun y => []) (fun y => List.length ([] : List Ax) - y.1) ⟨(0 : Nat), by simp⟩ ⟨rfl, rfl, rfl, rfl, rfl, rfl, trivial⟩ B_ (fun _ _ _ => trivial) ?_
    rintro ⟨j, hi_j⟩
    dsimp only at hi_j ⊢
    refine g_ (c_ (E_ (au_ rfl rfl) rfl fun r2 hr2 => ?_))
    refine d_ (b_ rfl (g_ ?_))
    cases r2
    · skip
      replace hr2 := of_decide_eq_false hr2
      refine y_ rfl (bi_ rfl (b_ rfl (g_ (c_ (a_ (f_ rfl) rfl (a_ (e_ rfl) rfl (a_ (e_ rfl) rfl (d_ (b_ rfl ?_)))))))))
      refine u_ ?_
      exact oh_ Tryz.results25 () rfl rfl rfl B_ (fun _ _ _ => trivial)
    · skip
      replace hr2 := of_decide_eq_true hr2
      exfalso; omega
  · skip
    replace hr1 := of_decide_eq_true hr1
    exfalso; omega
theorem src0_c (x : Ax) (hok : x.ok) (hc : x.check = 0) (hk : x.kind = 7) : Tri Tryz.prog 24 #[.slice none 0 0, Ax.val x, .slice none 0 0] [] [Ax.memF x, gn_] (fun _ : Unit => .int .i64 22) (fun _ => []) (fun _ => []) := by
  refine T_ Tryz.func24 rfl rfl Tryz.ntmps24 rfl fun v0 => ?_
  refine g_ (c_ (aL_ rfl rfl fun b1 => ?_))
  refine a_ (e_ rfl) rfl (d_ (b_ rfl (g_ (c_ (a_ (f_ rfl) rfl (P_ (lE_) rfl B_ (fun _ _ _ => by exact trivial) rfl fun _ => ?_))))))
  refine a_ (f_ rfl) rfl (a_ (aH_ rfl rfl) rfl (a_ (aH_ rfl rfl) rfl (a_ (e_ rfl) rfl (a_ (e_ rfl) rfl (d_ (b_ rfl (g_ (g_ (c_ ?_)))))))))
  refine a_ (f_ rfl) rfl (a_ (bW_ (bw_ rfl rfl) (show _ = Value.bool false from congrArg Value.bool (by decide))) rfl (d_ (b_ rfl (y_ rfl (L_ (b_ rfl (g_ (c_ (a_ (O_ 0 Tryz.isAgg58 Tryz.sizeOf58 rfl rfl rfl) rfl ?_)))))))))
  refine P_ (oK_ x hok hc hk) rfl B_ (fun v _ h => by exact ⟨h.1, h.2.1, trivial⟩) rfl fun _ => ?_
  refine a_ (f_ rfl) rfl (a_ (aH_ rfl rfl) rfl (a_ (aH_ rfl rfl) rfl (a_ (aH_ rfl rfl) rfl (a_ (e_ rfl) rfl (a_ (e_ rfl) rfl (a_ (e_ rfl) rfl (d_ (b_ rfl (g_ ?_)))))))))
  refine g_ (c_ (a_ (f_ rfl) rfl (a_ (bW_ (bw_ rfl rfl) (show _ = Value.bool true from congrArg Value.bool (by decide))) rfl (d_ (b_ rfl (w_ rfl (g_ (c_ (a_ (f_ rfl) rfl ?_)))))))))
  refine a_ (e_ rfl) rfl (d_ (b_ rfl (u_ ?_)))
  exact Y_ Tryz.results24 () rfl B_ (fun _ _ _ => trivial)
theorem nx_ (l : List Stp) (ad : Option Addr) (cap : Nat) (L : Str) (e : Int) (hE : eA_ l = (L, e)) (hll : l.length ≤ 10000000) (hfr : ∀ s ∈ l, s.frm.length ≤ 1000000) (hsf : ∀ s ∈ l, s.fact.sml) : Tri Tryz.prog 15 #[.agg #[.slice ad l.length cap]] [] [aR_ ad (List.flatMap Stp.cells l), cD_ l] (fun y : {y : Value × Hp // br_ 5 1 y.1 (List.length L) (List.flatMap u8C L) y.2} => .tuple #[y.1.1, .int .i64 e]) (fun y => y.1.2) (fun _ => []) := by
  have h := nv_ l ad cap hll hfr hsf
  rw [hE] at h
  exact h
def et_ : Stp := (Stp.mk 1 (aE_ [42] [42]) (-1) none 0 [])
theorem sn_e0 : eA_ [] = ([0, 0, 0, 0], 0) := by decide +kernel
theorem pa_ : eA_ [et_] = ((eA_ [et_]).1, 0) := by
  have : (eA_ [et_]).2 = 0 := by decide +kernel
  rw [← this]
theorem sn_d1 {Y : List Stp} {e : Int} (h : nL_ (eA_ [et_]).1 Y e) : e = 0 ∧ SameS Y [et_] := by
  have hd := oT_ pa_ (by intro s hs; rw [List.mem_singleton] at hs; subst hs; decide)
  rcases h with ⟨h1, h2⟩ | ⟨h1, _⟩
  · rw [hd, Option.some.injEq] at h1; exact ⟨h2, mD_ h1.symm⟩
  · rw [hd] at h1; cases h1
theorem sn_d0 {Y : List Stp} {e : Int} (h : nL_ [0] Y e) : e = 120 := by
  rcases h with ⟨h1, h2⟩ | ⟨_, _, h⟩
  · rw [show kH_ [0] = none from rfl] at h1; cases h1
  · exact h
theorem sn_c1 {e : Int} (h : gk_ [] (aE_ [42] [42]) [et_] e) : e = 0 := by
  refine iA_ h (.inr (.inr ⟨by decide +kernel, by decide, .inl ⟨fun j s hj => ?_, ⟨et_, rfl, rfl⟩, rfl⟩⟩))
  match j with
  | 0 => simp only [List.getElem?_cons_zero, Option.some.injEq] at hj; subst hj; decide +kernel
  | j + 1 => simp at hj
theorem sn_c2 {e : Int} (h : gk_ [] (aE_ [42] [42]) [] e) : e = 120 :=
  iA_ h (.inr (.inr ⟨by decide +kernel, by decide, .inr ⟨fun q => (by obtain ⟨_, t, ht, _⟩ := q; simp at ht), rfl⟩⟩))
theorem fj_ {l : List Fc} (h : l.all (fun f => Nat.ble f.a.length 17592186044414 && (Nat.ble f.b.length 17592186044414 && Nat.ble f.r.length 17592186044414)) = true) : ∀ x ∈ l, x.sml := fun x hx => by
  have := List.all_eq_true.1 h x hx
  simp only [Bool.and_eq_true, Nat.ble_eq] at this
  exact ⟨this.1, this.2.1, this.2.2⟩
theorem ha_ {v : Vw} : (cD_ [et_]).p v := fun x hx => by rw [List.mem_singleton] at hx; subst hx; exact .inl rfl
theorem mC_ {Y Z : List Stp} (h : SameS Y Z) {n : Nat} (hz : ∀ s ∈ Z, s.frm.length ≤ n) : ∀ s ∈ Y, s.frm.length ≤ n := fun s hs => by
  obtain ⟨i, hi⟩ := List.getElem?_of_mem hs
  have hl := (List.getElem?_eq_some_iff.1 hi).1
  have hz' := List.getElem?_eq_getElem (show i < Z.length by have := h.len; omega)
  rw [(h.eq i s _ hi hz').2.2.2]
  exact hz _ (List.getElem_mem _)
theorem strt58 : gy_ Tryz.prog 58 [(0, 1), (1, 1), (2, 5), (7, 5), (12, 1), (13, 1), (14, 1), (15, 1)] [.int .i64 0, .bool false, .int .i64 0, str [], .int .i64 0, .int .i64 0, .slice none 0 0, .int .i64 0, str [], .int .i64 0, .int .i64 0, .slice none 0 0, .slice none 0 0, str [], str [], str []] := ⟨_, Tryz.zeroValue58, U_, fun w => by simp [r_, aW_, x_, Tryz.sizeOf46, V_]⟩
theorem iJ_ : gy_ Tryz.prog 27 [(0, 1)] [.slice none 0 0] := ⟨_, fy_, aa_, fun w => by simp [an_]⟩
set_option maxHeartbeats 1000000 in
theorem mB_ : Tri Tryz.prog 9 #[] [] [iI_, gn_] (fun _ : Unit => .bool true) (fun _ => []) (fun _ => []) := by
 refine T_ Tryz.func9 rfl rfl Tryz.ntmps9 rfl fun v0 => ?_
 refine g_ (c_ (a_ (e_ rfl) rfl (d_ (b_ rfl (g_ (c_ (P_ (ik_ [65] [114] [66]) rfl B_ (fun _ _ _ => by exact trivial) rfl fun _ => ?_)))))))
 refine P_ (hy_ [66] [33]) rfl B_ (fun _ _ _ => by exact trivial) rfl fun _ => ?_
 refine aX_ ag_ k_ aS_ rfl rfl rfl rfl rfl rfl fun b1 => ?_
 refine bC_ (List.flatMap Fc.cells [(bq_ [65] [114] [66]), (aE_ [66] [33])]) D_ rfl ?_
 refine a_ (e_ rfl) rfl (d_ (b_ rfl (g_ (g_ (c_ (P_ (hy_ [65] [33]) rfl B_ (fun _ _ _ => by exact trivial) rfl fun _ => ?_))))))
 refine aX_ az_ r_ cG_ rfl rfl rfl rfl rfl rfl fun b2 => ?_
 refine bC_ (List.flatMap cV_ [0, 1]) D_ rfl ?_
 refine a_ (f_ rfl) rfl (P_ (fP_ 9 (aE_ [65] [33]) [0, 1] (some ⟨b2, 0, none⟩) 2 [(bq_ [65] [114] [66]), (aE_ [66] [33])] (some ⟨b1, 0, none⟩) 2 0 (by decide) (by decide) (fj_ (by decide +kernel)) (by decide) (by decide +kernel)) rfl B_ (fun v _ h => by exact ⟨h.1, h.2.1, h.2.2.1, trivial⟩) rfl fun _ => ?_)
 refine a_ (bo_ rfl) rfl (a_ (f_ rfl) rfl (l_ rfl rfl (P_ (hy_ [65] [33]) rfl B_ (fun _ _ _ => by exact trivial) rfl fun _ => ?_)))
 refine l_ rfl rfl (aX_ az_ r_ cG_ rfl rfl rfl rfl rfl rfl fun b3 => ?_)
 refine bC_ (List.flatMap cV_ [1, 0]) D_ rfl ?_
 refine l_ rfl rfl (a_ (f_ rfl) rfl (l_ rfl rfl (P_ (fP_ 9 (aE_ [65] [33]) [1, 0] (some ⟨b3, 0, none⟩) 2 [(bq_ [65] [114] [66]), (aE_ [66] [33])] (some ⟨b1, 0, none⟩) 2 120 (by decide) (by decide) (fj_ (by decide +kernel)) (by decide) (by decide +kernel)) rfl B_ (fun v _ h => by exact ⟨h.1, h.2.2.1, h.2.2.2.1, trivial⟩) rfl fun _ => ?_)))
 refine l_ rfl rfl (a_ (bo_ rfl) rfl (a_ (t_ rfl rfl) rfl (a_ (f_ rfl) rfl (l_ rfl rfl (P_ (ik_ [65] [114] [65]) rfl B_ (fun _ _ _ => by exact trivial) rfl fun _ => ?_)))))
 refine l_ rfl rfl (aX_ az_ r_ cG_ rfl rfl rfl rfl rfl rfl fun b4 => ?_)
 refine bC_ (List.flatMap cV_ [0]) D_ rfl ?_
 refine l_ rfl rfl (P_ (hy_ [65] [33]) rfl B_ (fun _ _ _ => by exact trivial) rfl fun _ => ?_)
 refine l_ rfl rfl (aX_ ag_ k_ aS_ rfl rfl rfl rfl rfl rfl fun b5 => ?_)
 refine bC_ (List.flatMap Fc.cells [(aE_ [65] [33])]) D_ rfl ?_
 refine l_ rfl rfl (P_ (fP_ 15 (bq_ [65] [114] [65]) [0] (some ⟨b4, 0, none⟩) 1 [(aE_ [65] [33])] (some ⟨b5, 0, none⟩) 1 0 (by decide) (by decide) (fj_ (by decide +kernel)) (by decide) (by decide +kernel)) rfl B_ (fun v _ h => by exact ⟨h.2.1, h.1, h.2.2.2.2.2.1, trivial⟩) rfl fun _ => ?_)
 refine l_ rfl rfl (a_ (bo_ rfl) rfl (a_ (t_ rfl rfl) rfl (d_ (b_ rfl (y_ rfl (L_ (b_ rfl (g_ (c_ ?_)))))))))
 refine a_ (ax_ fA_ rfl rfl) rfl (ad_ aS_ rfl fun b6 => ?_)
 refine X_ 0 k_ rfl rfl rfl rfl rfl rfl (d_ (b_ rfl (g_ (c_ (a_ (ax_ fA_ rfl rfl) rfl (ad_ aS_ rfl fun b7 => ?_))))))
 refine X_ 0 k_ rfl rfl rfl rfl rfl rfl (d_ (b_ rfl (g_ (g_ (c_ (a_ (O_ 0 R_ k_ rfl rfl rfl) rfl (aX_ az_ r_ cG_ rfl rfl rfl rfl rfl rfl fun b8 => ?_)))))))
 refine bC_ (List.flatMap cV_ [0]) D_ rfl ?_
 refine a_ (O_ 1 R_ k_ rfl rfl rfl) rfl (aX_ ag_ k_ aS_ rfl rfl rfl rfl rfl rfl fun b9 => ?_)
 refine bC_ (List.flatMap Fc.cells [(Fc.mk 3 [65] [] [102] 3 5)]) D_ rfl ?_
 refine P_ (fP_ 16 (Fc.mk 3 [65] [] [102] 0 9) [0] (some ⟨b8, 0, none⟩) 1 [(Fc.mk 3 [65] [] [102] 3 5)] (some ⟨b9, 0, none⟩) 1 0 (by decide) (by decide) (fj_ (by decide +kernel)) (by decide) (by decide +kernel)) rfl B_ (fun v _ h => by exact ⟨h.2.1, h.1, h.2.2.2.2.2.2.2.1, trivial⟩) rfl fun _ => ?_
 refine a_ (bo_ rfl) rfl (a_ (f_ rfl) rfl (l_ rfl rfl (a_ (O_ 1 R_ k_ rfl rfl rfl) rfl (l_ rfl rfl (aX_ az_ r_ cG_ rfl rfl rfl rfl rfl rfl fun b10 => ?_)))))
 refine bC_ (List.flatMap cV_ [0]) D_ rfl ?_
 refine l_ rfl rfl (a_ (O_ 0 R_ k_ rfl rfl rfl) rfl (l_ rfl rfl (aX_ ag_ k_ aS_ rfl rfl rfl rfl rfl rfl fun b11 => ?_)))
 refine bC_ (List.flatMap Fc.cells [(Fc.mk 3 [65] [] [102] 0 9)]) D_ rfl ?_
 refine l_ rfl rfl (P_ (fP_ 16 (Fc.mk 3 [65] [] [102] 3 5) [0] (some ⟨b10, 0, none⟩) 1 [(Fc.mk 3 [65] [] [102] 0 9)] (some ⟨b11, 0, none⟩) 1 120 (by decide) (by decide) (fj_ (by decide +kernel)) (by decide) (by decide +kernel)) rfl B_ (fun v _ h => by exact ⟨h.2.1, h.1, h.2.2.2.2.2.2.2.2.2.1, trivial⟩) rfl fun _ => ?_)
 refine l_ rfl rfl (a_ (bo_ rfl) rfl (a_ (t_ rfl rfl) rfl (d_ (b_ rfl (y_ rfl (L_ (b_ rfl (g_ (c_ ?_)))))))))
 refine P_ (hy_ [42] [42]) rfl B_ (fun _ _ _ => by exact trivial) rfl fun _ => ?_
 refine a_ (ax_ mt_ rfl rfl) rfl (aX_ ab_ as_ bc_ rfl rfl rfl rfl rfl rfl fun b12 => ?_)
 refine bC_ (List.flatMap Stp.cells [(Stp.mk 1 (aE_ [42] [42]) (-1) none 0 ([] : List Int))]) D_ rfl ?_
 refine a_ (ax_ iJ_ rfl rfl) rfl (ad_ fy_ rfl fun b13 => ?_)
 refine X_ 0 bJ_ rfl rfl rfl rfl rfl rfl (d_ (b_ rfl (g_ (c_ (a_ (ax_ iJ_ rfl rfl) rfl (P_ (nx_ [] none 0 [0, 0, 0, 0] 0 sn_e0 (by decide) (by decide) (by decide)) rfl B_ (fun v _ h => by exact ⟨(.inl rfl), fn_, trivial⟩) rfl fun ⟨⟨sve1, He1⟩, he1⟩ => ?_))))))
 dsimp only
 refine aZ_ pf_ (dh_ he1 dV_ fun ea1 ec1 hea1 hcea1 hmea1 hzea1 => ?_)
 subst hea1
 refine a_ (f_ rfl) rfl (a_ (aH_ rfl rfl) rfl (a_ (aH_ rfl rfl) rfl (a_ (e_ rfl) rfl (a_ (e_ rfl) rfl (d_ (b_ rfl (g_ (c_ (a_ (O_ 0 da_ bJ_ rfl rfl rfl) rfl ?_)))))))))
 refine P_ (nx_ [et_] (some ⟨b12, 0, none⟩) 1 (eA_ [et_]).1 0 pa_ (by decide) (by decide) (by decide)) rfl B_ (fun v _ h => by exact ⟨h.2.1, ha_, trivial⟩) rfl fun ⟨⟨sve2, He2⟩, he2⟩ => ?_
 dsimp only
 refine aZ_ pf_ (dh_ he2 dV_ fun ea2 ec2 hea2 hcea2 hmea2 hzea2 => ?_)
 subst hea2
 refine a_ (f_ rfl) rfl (a_ (aH_ rfl rfl) rfl (a_ (aH_ rfl rfl) rfl (a_ (e_ rfl) rfl (a_ (e_ rfl) rfl (d_ (b_ rfl (g_ (c_ (a_ (f_ rfl) rfl ?_)))))))))
 refine P_ (kg_ ((eA_ [et_]).1) ea2 ec2 ⟨hcea2, hmea2, hzea2⟩) rfl B_ (fun v _ h => by exact ⟨h.1, trivial⟩) rfl fun ⟨⟨⟨Y1, ya1, yc1⟩, ye1⟩, hD1, hY1, hM1, hZ1⟩ => ?_
 dsimp only
 dsimp only at hD1 hY1 hM1 hZ1
 obtain ⟨rfl, hS1⟩ := sn_d1 hD1; have hl1 := hS1.len
 refine a_ (f_ rfl) rfl (a_ (aH_ rfl rfl) rfl (a_ (aH_ rfl rfl) rfl (ad_ fy_ rfl fun b14 => ?_)))
 refine X_ 0 bJ_ rfl rfl rfl rfl rfl rfl (a_ (e_ rfl) rfl (d_ (b_ rfl (g_ (c_ (aX_ bv_ eZ_ Tryz.zeroValue5 rfl rfl rfl rfl rfl rfl fun b15 => ?_))))))
 refine bC_ (List.flatMap u8C [(0 : UInt8)]) D_ rfl ?_
 refine P_ (kg_ [(0 : UInt8)] (some ⟨b15, 0, none⟩) 1 ⟨Nat.le_refl _, (show 1 ≤ maxLen by decide), fun q => by cases q⟩) rfl B_ (fun v _ h => by exact ⟨h.1, trivial⟩) rfl fun ⟨⟨⟨Y2, ya2, yc2⟩, ye2⟩, hD2, hY2, hM2, hZ2⟩ => ?_
 dsimp only
 dsimp only at hD2 hY2 hM2 hZ2
 obtain rfl := sn_d0 hD2
 refine a_ (f_ rfl) rfl (a_ (aH_ rfl rfl) rfl (a_ (aH_ rfl rfl) rfl (ad_ fy_ rfl fun b16 => ?_)))
 refine X_ 0 bJ_ rfl rfl rfl rfl rfl rfl (a_ (e_ rfl) rfl (d_ (b_ rfl (g_ (g_ ?_)))))
 refine aI_ (by kernel_rfl) ?_
 refine K_ 36 [1] (by kernel_rfl) (fun _ a b => ⟨a, b⟩) (j_ rfl (O_ 2 da_ bJ_ rfl rfl rfl) rfl (J_ (I_ 0 rfl (by kernel_rfl) (P_ (hy_ [42] [42]) rfl B_ (fun _ _ _ => by exact trivial) rfl fun _ => ?_))))
 refine d_ (q_ rfl (A_ (fun _ a b => ⟨a, b⟩) (I_ 2 rfl (by kernel_rfl) (P_ (dO_ [] none 0 (aE_ [42] [42]) [et_] (some ⟨b12, 0, none⟩) 1 (by decide) (fun x hx => by simp at hx) (by decide) (by decide) (by decide)) rfl B_ (fun v _ h => by exact ⟨.inl rfl, h.2.2.2.2.2.2.2.1, ha_, h.2.2.2.2.2.2.2.2.2.2.2.2.2.2.2.2.2.1, trivial⟩) rfl fun ⟨ce1, hC1⟩ => ?_))))
 dsimp only
 try dsimp only at hC1
 obtain rfl := sn_c1 hC1
 refine d_ (q_ rfl (A_ (fun _ a b => ⟨a, b⟩) (K_ 31 [3, 4, 6] (by kernel_rfl) (fun _ a b => ⟨a, b⟩) (j_ rfl (bW_ (bw_ rfl rfl) (show _ = Value.bool false from congrArg Value.bool (by decide))) rfl (j_ rfl (f_ rfl) rfl (p_ rfl rfl rfl (ax_ iJ_ rfl rfl) rfl (J_ (I_ 5 rfl (by kernel_rfl) (l_ rfl rfl ?_)))))))))
 refine P_ (hy_ [42] [42]) rfl B_ (fun _ _ _ => by exact trivial) rfl fun _ => ?_
 refine d_ (q_ rfl (A_ (fun _ a b => ⟨a, b⟩) (I_ 7 rfl (by kernel_rfl) (l_ rfl rfl (P_ (dO_ [] none 0 (aE_ [42] [42]) [] none 0 (by decide) (fun x hx => by simp at hx) (by decide) (by decide) (by decide)) rfl B_ (fun v _ h => by exact ⟨.inl rfl, (.inl rfl), fn_, h.2.2.2.2.2.2.2.2.2.2.2.2.2.2.2.2.2.1, trivial⟩) rfl fun ⟨ce2, hC2⟩ => ?_)))))
 dsimp only
 try dsimp only at hC2
 obtain rfl := sn_c2 hC2
 refine d_ (q_ rfl (A_ (fun _ a b => ⟨a, b⟩) (K_ 21 [8, 9, 10, 11, 12, 13, 14, 15] (by kernel_rfl) (fun _ a b => ⟨a, b⟩) (p_ rfl rfl rfl (bW_ (bw_ rfl rfl) (show _ = Value.bool false from congrArg Value.bool (by decide))) rfl (j_ rfl (t_ rfl rfl) rfl (j_ rfl (f_ rfl) rfl (p_ rfl rfl rfl (f_ rfl) rfl (p_ rfl rfl rfl (kS_ hU_ jq_ dj_ rfl (fun v _ h => by exact h.2.2.2.2.2.2.1)) rfl ?_))))))))
 refine ar_ rfl rfl rfl (fJ_ rfl rfl) rfl fun r1 hr1 => ?_
 refine j_ rfl (t_ rfl rfl) rfl (j_ rfl (f_ rfl) rfl (J_ ?_))
 cases r1
 ·
  replace hr1 := bt_ hr1
  refine K_ 11 [16, 17, 18, 19, 20, 21, 22, 23, 24, 25] (by kernel_rfl) (fun _ a b => ⟨a, b⟩) (p_ rfl rfl rfl (f_ rfl) rfl (p_ rfl rfl rfl (bW_ (bw_ rfl rfl) (show _ = Value.bool false from congrArg Value.bool (by decide))) rfl (j_ rfl (t_ rfl rfl) rfl (j_ rfl (f_ rfl) rfl (p_ rfl rfl rfl (f_ rfl) rfl (p_ rfl rfl rfl (bW_ (bw_ rfl rfl) (show _ = Value.bool false from congrArg Value.bool (by decide))) rfl (j_ rfl (t_ rfl rfl) rfl (j_ rfl (f_ rfl) rfl (p_ rfl rfl rfl (O_ 1 da_ bJ_ rfl rfl rfl) rfl ?_)))))))))
  refine p_ rfl rfl rfl (O_ 2 da_ bJ_ rfl rfl rfl) rfl (J_ (I_ 26 rfl (by kernel_rfl) (l_ rfl rfl (P_ (oj_ Y1 ya1 yc1 [et_] (some ⟨b12, 0, none⟩) 1 hS1 (by rw [hl1]; decide) (fun s hs => mC_ hS1 (by decide) s hs)) rfl B_ (fun v _ h => by exact ⟨h.2.2.2.1, h.2.2.2.2.1, h.2.2.2.2.2.2.2.1, ha_, trivial⟩) rfl fun _ => ?_))))
  refine d_ (q_ rfl (A_ (fun _ a b => ⟨a, b⟩) (K_ 0 [27, 28, 29, 30, 31, 32, 33, 34, 35, 36] (by kernel_rfl) (fun _ a b => ⟨a, b⟩) (p_ rfl rfl rfl (bo_ rfl) rfl (j_ rfl (t_ rfl rfl) rfl (j_ rfl (f_ rfl) rfl (p_ rfl rfl rfl (f_ rfl) rfl (p_ rfl rfl rfl (bW_ (bw_ rfl rfl) (show _ = Value.bool false from congrArg Value.bool (by decide))) rfl (j_ rfl (t_ rfl rfl) rfl ?_)))))))))
  refine j_ rfl (f_ rfl) rfl (p_ rfl rfl rfl (f_ rfl) rfl (p_ rfl rfl rfl (bW_ (bw_ rfl rfl) (show _ = Value.bool false from congrArg Value.bool (by decide))) rfl (j_ rfl (t_ rfl rfl) rfl (J_ (S_ (by kernel_rfl) (b_ rfl (y_ rfl (L_ (b_ rfl ?_)))))))))
  refine g_ (c_ (a_ (ax_ strt58 rfl rfl) rfl (P_ (src0_c (Ax.mk 7 false (Con.mk 0 [] 0 0 none 0 []) (Con.mk 0 [] 0 0 none 0 []) none 0 [] [114] [] []) ok_ax7 nu_ rfl) rfl B_ (fun v _ h => by exact ⟨op_, h.2.2.2.2.2.2.2.2.2.2.2.2.2.2.2.2.2.2.1, trivial⟩) rfl fun _ => ?_)))
  refine a_ (bW_ (aC_ rfl rfl) (show _ = Value.bool true from congrArg Value.bool (by decide))) rfl (a_ (e_ rfl) rfl (d_ (b_ rfl (u_ ?_))))
  exact Y_ Tryz.results9 () rfl B_ (fun _ _ _ => trivial)
 ·
  replace hr1 := bs_ hr1
  exact absurd rfl hr1
end Go.Proofs.YtaffcjgphlhppaaGreatDoor
namespace Go.Proofs.YtaffcjgphlhppaaGreatDoor
open Go Go.Sx Go.Proofs
attribute [local irreducible] Code.wp wpList wpAnyH
open Go.Vs
theorem je_ {p : List Pc} {f : Fc} {l : List Stp} (h : gk_ p f l 0) : ci_ p = 0 ∧ l.length ≤ 65536 ∧ gU_ p l ∧ ∃ t, l[l.length - 1]? = some t ∧ t.fact = f := by
  rcases h with ⟨h1, h2⟩ | ⟨_, _, h2⟩ | ⟨h1, h2, ⟨h3, h4, _⟩ | ⟨_, h3⟩⟩
  · exact absurd h2.symm h1
  · exact absurd h2 (by decide)
  · exact ⟨h1, h2, h3, h4⟩
  · exact absurd h3 (by decide)
theorem gS_ {p : List Pc} {f : Fc} {l : List Stp} {e : Int} (h : gk_ p f l e) (h1 : ci_ p = 0) (h2 : l.length ≤ 65536) : (e = 0 ↔ gU_ p l ∧ ∃ t, l[l.length - 1]? = some t ∧ t.fact = f) ∧ (e = 0 ∨ e = 120) := by
  rcases h with ⟨h3, _⟩ | ⟨_, h3, _⟩ | ⟨_, _, ⟨h3, h4, rfl⟩ | ⟨h3, rfl⟩⟩
  · exact absurd h1 h3
  · omega
  · exact ⟨⟨fun _ => ⟨h3, h4⟩, fun _ => rfl⟩, .inl rfl⟩
  · exact ⟨⟨fun q => (by cases q), fun q => absurd q h3⟩, .inr rfl⟩
theorem mr_ {p : List Pc} {f : Fc} {l : List Stp} {n : Nat} {s : Stp} {e : Int} (h : gk_ p f l 0) (hn : 1 ≤ n) (hs : l[n - 1]? = some s) (h3 : gk_ p s.fact (List.take n l) e) : e = 0 := by
  obtain ⟨h1, h2, hS, _⟩ := je_ h
  have hlt := (List.getElem?_eq_some_iff.1 hs).1
  have hlen : (List.take n l).length = n := by rw [List.length_take]; omega
  rw [(gS_ h3 h1 (by omega)).1]
  refine ⟨fun j s9 hj => ?_, s, ?_, rfl⟩
  · have hj2 := (List.getElem?_eq_some_iff.1 hj).1
    rw [List.getElem?_take_of_lt (by omega)] at hj
    rw [List.take_take, Nat.min_eq_left (by omega)]
    exact hS j s9 hj
  · rw [hlen, List.getElem?_take_of_lt (by omega)]; exact hs
theorem mS_ {p : List Pc} {f g : Fc} {l : List Stp} {e : Int} (h : gk_ p f l 0) (hg : g ≠ f) (h3 : gk_ p g l e) : e = 120 := by
  obtain ⟨h1, h2, hS, t, ht, hf⟩ := je_ h
  rcases (gS_ h3 h1 h2).2 with he | he
  · obtain ⟨_, t', ht', hf'⟩ := (gS_ h3 h1 h2).1.1 he
    rw [ht, Option.some.injEq] at ht'
    subst ht'
    exact absurd (hf'.symm.trans hf) hg
  · exact he
theorem ky_ {p m : List Pc} {s : Str} (h : cR_ p s = true) : cR_ (p ++ m) s = true := by
  unfold cR_ at h ⊢
  rw [List.any_append]
  simp only [Bool.or_eq_true] at h ⊢
  rcases h with h | h | h
  · exact .inl h
  · exact .inr (.inl h)
  · exact .inr (.inr (.inl h))
theorem lS_ {kn kn' : Str → Bool} (hk : ∀ s, kn s = true → kn' s = true) {k : Int} {x : Pc} {f g h : Fc} (hi : ff_ kn k x f g h = true) : ff_ kn' k x f g h = true := by
  unfold ff_ at hi ⊢
  by_cases h1 : k = 1
  · rw [if_pos h1] at hi ⊢; simp only [nq_, Bool.and_eq_true] at hi ⊢; exact ⟨hk _ hi.1, hi.2⟩
  rw [if_neg h1] at hi ⊢
  by_cases h2 : k = 2
  · rw [if_pos h2] at hi ⊢; simp only [no_, Bool.and_eq_true] at hi ⊢; exact ⟨hk _ hi.1, hi.2⟩
  rw [if_neg h2] at hi ⊢
  by_cases h10 : k = 10
  · subst h10; simp only [jY_, Bool.and_eq_true, show ¬ ((10 : Int) = 3) by decide, show ¬ ((10 : Int) = 4) by decide, show ¬ ((10 : Int) = 5) by decide, show ¬ ((10 : Int) = 6) by decide, show ¬ ((10 : Int) = 7) by decide, show ¬ ((10 : Int) = 8) by decide, show ¬ ((10 : Int) = 9) by decide, if_false, if_true] at hi ⊢; exact ⟨hk _ hi.1, hi.2⟩
  simp only [if_neg h10] at hi ⊢
  exact hi
theorem nB_ {p m : List Pc} {fs : List Fc} {s : Stp} (h : df_ p fs s = true) : df_ (p ++ m) fs s = true := by
  unfold df_ at h ⊢
  simp only [Bool.and_eq_true, decide_eq_true_eq] at h ⊢
  obtain ⟨h1, h2, h3, h4, h5, h6, h7⟩ := h
  have hp : eK_ (p ++ m) s.rule s.piece = true ∧ fc_ (p ++ m) s.rule s.piece = fc_ p s.rule s.piece := by
    by_cases hz : dm_ s.rule = 0
    · rw [hi_ hz] at h6 ⊢
      exact ⟨h6, by unfold fc_; rw [if_pos hz, if_pos hz]⟩
    · obtain ⟨q1, q2, q3⟩ := (fW_ hz).1 h6
      have e : (p ++ m).getD s.piece.toNat zpc = p.getD s.piece.toNat zpc := by
        have hlt : s.piece.toNat < p.length := by omega
        simp [List.getD, List.getElem?_append_left hlt]
      exact ⟨(fW_ hz).2 ⟨q1, by rw [List.length_append]; omega, by rw [e]; exact q3⟩, by unfold fc_; rw [if_neg hz, if_neg hz, e]⟩
  exact ⟨h1, h2, h3, h4, h5, hp.1, by rw [hp.2]; exact lS_ (fun s => ky_) h7⟩
theorem nE_ {p m : List Pc} {f : Fc} {l : List Stp} {e : Int} (h : gk_ p f l 0) (hc : ci_ (p ++ m) = 0) (h3 : gk_ (p ++ m) f l e) : e = 0 := by
  obtain ⟨h1, h2, hS, ht⟩ := je_ h
  exact (gS_ h3 hc h2).1.2 ⟨fun j s hj => nB_ (hS j s hj), ht⟩
theorem mj_ {P : Program} {N : Nf} {fr : Fr} {H : Hp} {Γ : List Fct} {ty t t' : TypeId} {x y : Operand} {m n : Int} (hx : Fr.ev fr x = some (.int .i64 m)) (hy : Fr.ev fr y = some (.int .i64 n)) : Yld P N fr H Γ (.binOp .add t x y t') ty (.int .i64 (IntKind.wrap .i64 (m + n))) :=
  fun a v h1 _ _ _ _ _ => by simp [execOp, h1.ev hx, h1.ev hy, eqGuard, binOp, Op.intArith]
theorem lr_ {n : Int} (h : I64 n) : IntKind.wrap .i64 (n + 1) ≠ n := by
  obtain ⟨h1, h2⟩ := h
  by_cases h3 : n + 1 ≤ 9223372036854775807
  · rw [aK_ (by omega) h3]; omega
  · obtain rfl : n = 9223372036854775807 := by omega
    decide
theorem checkerGrows_c (p : List Pc) (pad : Option Addr) (pcap : Nat) (hp : p.length ≤ 1099511627744) (hbig : ∀ x ∈ p, x.lim) (hpc : p.length ≤ pcap) (hpz : pad = none → pcap = 0) (m : List Pc) (mad : Option Addr) (mcap : Nat) (hm : m.length ≤ 1099511627744) (hbigm : ∀ x ∈ m, x.lim) (hmc : m.length ≤ mcap) (hmz : mad = none → mcap = 0) (f : Fc) (hhi : I64 f.hi) (l : List Stp) (ad : Option Addr) (cap : Nat) (hl : l.length ≤ 1256584717424) (hlim : ∀ s ∈ l, s.fact.lim) (hlc : l.length ≤ cap) (n : Int) : Tri Tryz.prog 4 #[.slice pad (List.length p) pcap, .slice mad (List.length m) mcap, Fc.val f, .agg #[.slice ad (List.length l) cap], .int .i64 n] [] [aR_ pad (List.flatMap Pc.cells p), aR_ mad (List.flatMap Pc.cells m), aR_ ad (List.flatMap Stp.cells l), cD_ l, iI_, gn_] (fun _ : Unit => .bool true) (fun _ => []) (fun _ => []) := by
 refine T_ Tryz.func4 rfl rfl Tryz.ntmps4 rfl fun v0 => ?_
 refine g_ (c_ (aL_ rfl rfl fun b1 => ?_))
 refine aL_ rfl rfl fun b2 => ?_
 refine a_ (e_ rfl) rfl (d_ (b_ rfl (g_ (g_ (c_ (P_ (mB_) rfl B_ (fun v _ h => by exact ⟨h.2.2.2.2.1, h.2.2.2.2.2.1, trivial⟩) rfl fun _ => ?_))))))
 refine a_ (bo_ rfl) rfl (d_ (b_ rfl (y_ rfl (L_ (b_ rfl (g_ (g_ (c_ (a_ (f_ rfl) rfl ?_)))))))))
 refine P_ (kY_ p pad pcap hp hbig) rfl B_ (fun v _ h => by exact ⟨h.1, trivial⟩) rfl fun ⟨sb, hsb⟩ => ?_
 dsimp only
 refine a_ (bo_ rfl) rfl (a_ (f_ rfl) rfl ?_)
 cases sb
 ·
  refine n_ rfl rfl rfl rfl (n_ rfl rfl rfl rfl (n_ rfl rfl rfl rfl (a_ (z_ rfl rfl) rfl (a_ (f_ rfl) rfl (n_ rfl rfl rfl rfl (n_ rfl rfl rfl rfl (n_ rfl rfl rfl rfl (a_ (z_ rfl rfl) rfl (d_ ?_)))))))))
  refine b_ rfl (w_ rfl (g_ (c_ (a_ (e_ rfl) rfl (d_ (b_ rfl (u_ ?_)))))))
  exact Y_ es_ () rfl B_ (fun _ _ _ => trivial)
 ·
  obtain ⟨hp60, hsm⟩ := hsb rfl
  refine l_ rfl rfl (a_ (f_ rfl) rfl (l_ rfl rfl (P_ (kY_ m mad mcap hm hbigm) rfl B_ (fun v _ h => by exact ⟨h.2.1, trivial⟩) rfl fun ⟨sc, hsc⟩ => ?_)))
  dsimp only
  refine l_ rfl rfl (a_ (bo_ rfl) rfl (a_ (t_ rfl rfl) rfl (a_ (f_ rfl) rfl ?_)))
  cases sc
  ·
   refine n_ rfl rfl rfl rfl (n_ rfl rfl rfl rfl (n_ rfl rfl rfl rfl (a_ (z_ rfl rfl) rfl (d_ (b_ rfl (w_ rfl (g_ (c_ (a_ (e_ rfl) rfl ?_)))))))))
   refine d_ (b_ rfl (u_ ?_))
   exact Y_ es_ () rfl B_ (fun _ _ _ => trivial)
  ·
   obtain ⟨hm60, hsmm⟩ := hsc rfl
   refine l_ rfl rfl (a_ (O_ 0 da_ bJ_ rfl rfl rfl) rfl (l_ rfl rfl (P_ (oM_ l ad cap hl hlim) rfl B_ (fun v _ h => by exact ⟨h.2.2.1, h.2.2.2.1, trivial⟩) rfl fun ⟨fw, hfw⟩ => ?_)))
   dsimp only
   refine l_ rfl rfl (a_ (bo_ rfl) rfl (a_ (t_ rfl rfl) rfl (d_ (b_ rfl ?_))))
   cases fw
   ·
    refine w_ rfl (g_ (c_ (a_ (e_ rfl) rfl (d_ (b_ rfl (u_ ?_))))))
    exact Y_ es_ () rfl B_ (fun _ _ _ => trivial)
   ·
    obtain ⟨hl60, hfew⟩ := hfw rfl
    have hfr : ∀ s ∈ l, s.frm.length ≤ 1000000 := fun s hs => by have := (hfew s hs).1; omega
    have hsml : ∀ s ∈ l, s.fact.sml := fun s hs => (hfew s hs).sml
    refine y_ rfl (L_ (b_ rfl (g_ (g_ (c_ (a_ (f_ rfl) rfl (a_ (O_ 1 R_ k_ rfl rfl rfl) rfl (a_ (O_ 0 da_ bJ_ rfl rfl rfl) rfl (P_ (dO_ p pad pcap f l ad cap (by omega) hsm (by omega) hfr hsml) rfl B_ (fun v _ h => by exact ⟨h.1, h.2.2.1, h.2.2.2.1, h.2.2.2.2.1, trivial⟩) rfl fun ⟨e1, hC1⟩ => ?_)))))))))
    dsimp only
    try dsimp only at hC1
    refine E_ (bw_ rfl rfl) rfl fun r1 hr1 => ?_
    refine d_ (b_ rfl ?_)
    cases r1
    ·
     replace hr1 := bt_ hr1
     have he1 : e1 = 0 := by omega
     subst he1
     refine y_ rfl (L_ (b_ rfl (g_ (g_ (c_ (a_ (f_ rfl) rfl (E_ (au_ rfl rfl) rfl fun r2 hr2 => ?_)))))))
     refine a_ (f_ rfl) rfl ?_
     cases r2
     ·
      replace hr2 := of_decide_eq_false hr2
      refine l_ rfl rfl (a_ (f_ rfl) rfl (l_ rfl rfl (a_ (h_ aa_ rfl rfl rfl an_) rfl (l_ rfl rfl (a_ (m_ 0 aV_ rfl rfl rfl) rfl (l_ rfl rfl (a_ (aB_ ab_ rfl) rfl (l_ rfl rfl (E_ (bx_ rfl rfl) rfl fun r3 hr3 => ?_)))))))))
      refine a_ (t_ rfl rfl) rfl (d_ (b_ rfl ?_))
      cases r3
      ·
       replace hr3 := of_decide_eq_false hr3
       refine y_ rfl (L_ (b_ rfl (g_ ?_)))
       have hn1 : 1 ≤ n := by omega
       obtain ⟨k, rfl⟩ : ∃ k : Nat, n = (k : Int) := ⟨n.toNat, by omega⟩
       have hlx1 : (Int.toNat ((k : Int) - 1)) < List.length l := by omega
       obtain ⟨x1, hx1⟩ : ∃ e0, l[(Int.toNat ((k : Int) - 1))]? = some e0 := ⟨_, List.getElem?_eq_getElem hlx1⟩
       have hmx1 : x1 ∈ l := List.mem_of_getElem? hx1
       have hx1' : l[k - 1]? = some x1 := by rw [← hx1]; congr 1; omega
       refine c_ (a_ (h_ aa_ rfl rfl rfl an_) rfl (a_ (m_ 0 aV_ rfl rfl rfl) rfl (a_ (f_ rfl) rfl (a_ (ac_ rfl rfl rfl (aK_ (by omega) (by omega))) rfl (a_ (ah_ ab_ as_ rfl rfl (fun v _ h => aN_ (n := 9) Stp.cells_len (by decide) (by exact h.2.2.1) hx1) (by omega) (by first | omega | (simp; done))) rfl (a_ (bL_ Q_ rfl rfl rfl k_) rfl (a_ (aM_ (ad := ad) (us := Fc.cells (Stp.fact x1)) R_ k_ rfl (fun v _ h => by exact h.2.2.1) rfl (hX_ 1 (ak_ Stp.cells_len hx1) (Stp.fact_cells x1))) rfl (ad_ aS_ rfl fun b3 => ?_))))))))
       refine X_ 0 k_ rfl rfl rfl rfl rfl rfl (d_ (b_ rfl (g_ (g_ ?_))))
       refine aI_ (by kernel_rfl) ?_
       refine K_ 2 [0, 1, 2, 3, 4, 5, 6] (by kernel_rfl) (fun _ a b => ⟨a, b⟩) (j_ rfl (f_ rfl) rfl (j_ rfl (O_ 0 R_ k_ rfl rfl rfl) rfl (j_ rfl (h_ aa_ rfl rfl rfl an_) rfl (j_ rfl (m_ 1 aV_ rfl rfl rfl) rfl (j_ rfl (f_ rfl) rfl (j_ rfl (bW_ (ds_ (i := 0) (j := k) (kl := .i64) (kh := .i64) ab_ as_ rfl rfl rfl (by omega) (by have := hlc; omega)) (show _ = Value.slice (sad ad cap 0 9) (List.length (List.take k l)) (cap - 0) by rw [List.length_take, Nat.min_eq_left (by omega)]; rfl)) rfl (j_ rfl (ax_ iJ_ rfl rfl) rfl (J_ (I_ 7 rfl (by kernel_rfl) ?_)))))))))
       refine P_ (dO_ p pad pcap (Stp.fact x1) (List.take k l) (sad ad cap 0 9) (cap - 0) (by omega) hsm (by first | (simp; done) | (simp; omega)) (fun s hs => hfr s (List.mem_of_mem_take hs)) (fun s hs => hsml s (List.mem_of_mem_take hs))) rfl B_ (fun v _ h => by exact ⟨h.1, (bD_.slice Stp.cells_len h.2.2.1 hlc 0 k), (lw_ h.2.2.2.1 (fun x hx => List.mem_of_mem_take hx)), h.2.2.2.2.1, trivial⟩) rfl fun ⟨e2, hC2⟩ => ?_
       dsimp only
       try dsimp only at hC2
       refine d_ (q_ rfl (A_ (fun _ a b => ⟨a, b⟩) (K_ 0 [8] (by kernel_rfl) (fun _ a b => ⟨a, b⟩) ?_)))
       refine bk_ rfl (bw_ rfl rfl) rfl fun r4 hr4 => ?_
       refine J_ (S_ (by kernel_rfl) (b_ rfl ?_))
       cases r4
       ·
        replace hr4 := bt_ hr4
        refine y_ rfl (L_ (b_ rfl (g_ (c_ (a_ (O_ 2 R_ k_ rfl rfl rfl) rfl (ad_ aS_ rfl fun b4 => ?_))))))
        refine X_ 0 k_ rfl rfl rfl rfl rfl rfl (d_ (b_ rfl (g_ (c_ (a_ (h_ o_ rfl rfl rfl r_) rfl (a_ (m_ 0 C_ rfl rfl rfl) rfl (a_ (mj_ rfl rfl) rfl (a_ (h_ o_ rfl rfl rfl r_) rfl (X_ 0 r_ rfl rfl rfl rfl rfl rfl ?_)))))))))
        refine d_ (b_ rfl (g_ (g_ (c_ (a_ (f_ rfl) rfl (a_ (O_ 0 R_ k_ rfl rfl rfl) rfl (a_ (O_ 2 da_ bJ_ rfl rfl rfl) rfl (P_ (dO_ p pad pcap (Fc.mk (Fc.kind f) (Fc.a f) (Fc.b f) (Fc.r f) (Fc.lo f) (IntKind.wrap .i64 (Fc.hi f + 1))) l ad cap (by omega) hsm (by omega) hfr hsml) rfl B_ (fun v _ h => by exact ⟨h.1, h.2.2.1, h.2.2.2.1, h.2.2.2.2.1, trivial⟩) rfl fun ⟨e3, hC3⟩ => ?_))))))))
        dsimp only
        try dsimp only at hC3
        refine E_ (bw_ rfl rfl) rfl fun r5 hr5 => ?_
        refine d_ (b_ rfl ?_)
        cases r5
        ·
         replace hr5 := bt_ hr5
         refine y_ rfl (L_ (b_ rfl (g_ (c_ (lF_ aU_ ai_ rfl fun b5 => ?_)))))
         refine aZ_ D_ (a_ (f_ rfl) rfl (dD_ (news := List.flatMap Pc.cells p) ny_ (mw_ b5 73 10) rfl rfl hpz hpc dV_ (by rw [dH_ Pc.cells 10 Pc.cells_len]) (fun v _ h => by exact h.1) (fun u hu => bS_ Pc.cells_one hu) (by simp only [maxLen]; ((try simp only [List.length_append, List.length_nil]); omega)) (by ((try simp only [List.length_append, List.length_nil]); omega)) rfl fun sv1 Hr1 hr1 => ?_))
         refine aZ_ List.perm_append_comm ?_
         have hq1 : br_ 73 10 sv1 (List.length (([] : List Pc) ++ p)) (List.flatMap Pc.cells (([] : List Pc) ++ p)) Hr1 := by rw [List.length_append, List.flatMap_append]; exact hr1
         refine a_ (f_ rfl) rfl (dD_ (news := List.flatMap Pc.cells m) ny_ hq1 rfl rfl hmz hmc (H_ (H_ (H_ aQ_))) (by rw [dH_ Pc.cells 10 Pc.cells_len]) (fun v _ h => by exact h.2.1) (fun u hu => bS_ Pc.cells_one hu) (by simp only [maxLen]; ((try simp only [List.length_append, List.length_nil]); omega)) (by ((try simp only [List.length_append, List.length_nil]); omega)) rfl fun sv2 Hr2 hr2 => ?_)
         refine aZ_ List.perm_append_comm ?_
         have hq2 : br_ 73 10 sv2 (List.length ((([] : List Pc) ++ p) ++ m)) (List.flatMap Pc.cells ((([] : List Pc) ++ p) ++ m)) Hr2 := by rw [List.length_append, List.flatMap_append]; exact hr2
         refine a_ (e_ rfl) rfl (d_ (b_ rfl (g_ (dh_ hq2 (H_ (H_ (H_ aQ_))) fun qad qcap hqad hcqad hmqad hzqad => ?_))))
         subst hqad
         refine c_ (a_ (f_ rfl) rfl (P_ (jf_ ((([] : List Pc) ++ p) ++ m) qad qcap (by simp only [List.nil_append, List.length_append]; omega) (fun x hx => by simp only [List.nil_append, List.mem_append] at hx; rcases hx with hx | hx; exact hsm x hx; exact hsmm x hx)) rfl B_ (fun v _ h => by exact ⟨h.1, h.2.2.2.2.2.1, trivial⟩) rfl fun _ => ?_))
         refine E_ (bw_ rfl rfl) rfl fun r6 hr6 => ?_
         refine a_ (f_ rfl) rfl ?_
         cases r6
         ·
          replace hr6 := bt_ hr6
          refine l_ rfl rfl (a_ (f_ rfl) rfl (l_ rfl rfl (a_ (O_ 3 R_ k_ rfl rfl rfl) rfl (l_ rfl rfl (a_ (O_ 2 da_ bJ_ rfl rfl rfl) rfl (l_ rfl rfl (P_ (dO_ ((([] : List Pc) ++ p) ++ m) qad qcap f l ad cap (by simp only [List.nil_append, List.length_append]; omega) (fun x hx => by simp only [List.nil_append, List.mem_append] at hx; rcases hx with hx | hx; exact hsm x hx; exact hsmm x hx) (by omega) hfr hsml) rfl B_ (fun v _ h => by exact ⟨h.1, h.2.2.2.1, h.2.2.2.2.1, h.2.2.2.2.2.1, trivial⟩) rfl fun ⟨e4, hC4⟩ => ?_)))))))
          dsimp only
          try dsimp only at hC4
          refine l_ rfl rfl (E_ (aC_ rfl rfl) rfl fun r7 hr7 => ?_)
          refine a_ (t_ rfl rfl) rfl (a_ (e_ rfl) rfl (d_ (b_ rfl (u_ ?_))))
          have z9 : e4 = 0 := nE_ (m := m) hC1 (by have w := hr6; simpa using w) (by simpa using hC4)
          exact Y_ es_ () (s_ rfl (by rw [← hr7, z9]; rfl)) B_ (fun _ _ _ => trivial)
         ·
          replace hr6 := bs_ hr6
          refine n_ rfl rfl rfl rfl (n_ rfl rfl rfl rfl (n_ rfl rfl rfl rfl (n_ rfl rfl rfl rfl (n_ rfl rfl rfl rfl (a_ (z_ rfl rfl) rfl (a_ (e_ rfl) rfl (d_ (b_ rfl (u_ ?_)))))))))
          exact Y_ es_ () rfl B_ (fun _ _ _ => trivial)
        ·
         replace hr5 := bs_ hr5
         exact absurd (mS_ hC1 (fun e => lr_ hhi (congrArg Fc.hi e)) hC3) hr5
       ·
        replace hr4 := bs_ hr4
        exact absurd (mr_ hC1 (by omega) hx1' hC2) hr4
      ·
       replace hr3 := of_decide_eq_true hr3
       refine w_ rfl (g_ (c_ (a_ (e_ rfl) rfl (d_ (b_ rfl (u_ ?_))))))
       exact Y_ es_ () rfl B_ (fun _ _ _ => trivial)
     ·
      replace hr2 := of_decide_eq_true hr2
      refine n_ rfl rfl rfl rfl (n_ rfl rfl rfl rfl (n_ rfl rfl rfl rfl (n_ rfl rfl rfl rfl (n_ rfl rfl rfl rfl (a_ (z_ rfl rfl) rfl (d_ (b_ rfl (w_ rfl (g_ ?_)))))))))
      refine c_ (a_ (e_ rfl) rfl (d_ (b_ rfl (u_ ?_))))
      exact Y_ es_ () rfl B_ (fun _ _ _ => trivial)
    ·
     replace hr1 := bs_ hr1
     refine w_ rfl (g_ (c_ (a_ (e_ rfl) rfl (d_ (b_ rfl (u_ ?_))))))
     exact Y_ es_ () rfl B_ (fun _ _ _ => trivial)
end Go.Proofs.YtaffcjgphlhppaaGreatDoor
namespace Go.Proofs.YtaffcjgphlhppaaGreatDoor
open Go Go.Sx Go.Proofs
attribute [local irreducible] Code.wp wpList wpAnyH
open Go.Vs
structure Pf where
  l : List Stp
  ad : Option Addr
  cap : Nat
def Pf.cells (y : Pf) : List Value := [.slice y.ad y.l.length y.cap]
theorem Pf.cells_len (y : Pf) : y.cells.length = 1 := rfl
def Pf.val (y : Pf) : Value := .agg y.cells.toArray
structure Pf.lim (y : Pf) : Prop where
  len : y.l.length ≤ 1256584717424
  st : ∀ s ∈ y.l, s.fact.lim
structure Pf.few (y : Pf) : Prop where
  len : y.l.length ≤ 60
  st : ∀ s ∈ y.l, s.few
end Go.Proofs.YtaffcjgphlhppaaGreatDoor
