/-
  Part of the proof of the law SaturateNextSpec over this seat: the small logic, the data, the contracts of functions (no condition).
-/
import Derived.Test.YtpdbbglpbngeiaaGreatDoorQSaturateNextSpec6
import Derived.Test.YtpdbbglpbngeiaaGreatDoorQSaturateNextSpec2
import Derived.Test.YtpdbbglpbngeiaaGreatDoorQSaturateNextSpec1
set_option linter.unusedVariables false
set_option linter.unusedSimpArgs false
set_option linter.unusedSectionVars false
namespace Go.Proofs.YtpdbbglpbngeiaaGreatDoor
open Go Go.Sx Go.Proofs
attribute [local irreducible] Code.wp wpList wpAnyH
open Go.Vs
theorem nV_ {L q : List Fc} (h : L.Perm q) (hn : q.Nodup) : fo_ L = fo_ q :=
  Srt.ext (hH_ (h.nodup_iff.2 hn)) (hH_ hn) fun x => by rw [hI_, hI_]; exact h.mem_iff
theorem oI_ (mb bx c : Nat) (es : Array MapEntry) (q : List Fc) (hE : SetE Fc.val es q) (hB : Born es c) (hql : q.length ≤ 1000000000000) : Tri Tryz.prog 121 #[.func (.func 122) #[] #[zp_ bx 0]] [(bx, .cells #[.map (some mb)] 88 (0, 0)), (mb, .map es c)] [] (fun y : {y : Value × Hp × List Fc // aQ_ 41 6 y.1 y.2.2.length (y.2.2.flatMap Fc.cells) y.2.1 ∧ y.2.2.Perm q} => y.1.1) (fun y => (bx, .cells #[.map (some mb)] 88 (0, 0)) :: (mb, .map es c) :: y.1.2.1) (fun _ => []) := by
  refine T_ Tryz.func121 rfl rfl Tryz.ntmps121 rfl fun v0 => ?_
  refine h_ (c_ (a_ (g_ rfl) rfl (e_ (b_ rfl (h_ (c_ (a_ (f_ rfl) rfl (X_ (qe_ mb bx c es q hE hB hql) rfl (o_ i_ i_) (fun _ _ _ => by exact trivial) rfl fun ⟨⟨sv1, Hq1, L1⟩, hr1, hL1⟩ => ?_))))))))
  dsimp only
  simp only [List.cons_append, List.append_nil]
  refine a_ (g_ rfl) rfl (e_ (b_ rfl (H_ ?_)))
  exact ap_ Tryz.results121 ⟨(sv1, Hq1, L1), hr1, hL1⟩ rfl (o_ i_ (o_ i_ aC_)) (fun _ _ _ => trivial)
theorem nX_ (mb bx c : Nat) (es : Array MapEntry) (q : List Fc) (hE : SetE Fc.val es q) (hB : Born es c) (hql : q.length ≤ 1000000000000) : Tri Tryz.prog 68 #[.func (.func 122) #[] #[zp_ bx 0], .func (.func 61) #[] #[]] [(bx, .cells #[.map (some mb)] 88 (0, 0)), (mb, .map es c)] [] (fun y : {y : Option Addr × Nat // (fo_ q).length ≤ y.2 ∧ y.2 ≤ maxLen ∧ (y.1 = none → y.2 = 0)} => .slice y.1.1 (fo_ q).length y.1.2) (fun _ => []) (fun y => [az_ y.1.1 ((fo_ q).flatMap Fc.cells)]) := by
  refine T_ Tryz.func68 rfl rfl Tryz.ntmps68 rfl fun v0 => ?_
  refine h_ (c_ (a_ (g_ rfl) rfl (e_ (b_ rfl (h_ (c_ (a_ (f_ rfl) rfl (X_ (oI_ mb bx c es q hE hB hql) rfl (o_ i_ i_) (fun _ _ _ => by exact trivial) rfl fun ⟨⟨sv1, Hq1, L1⟩, hr1, hL1⟩ => ?_))))))))
  dsimp only
  simp only [List.cons_append, List.append_nil]
  refine a_ (g_ rfl) rfl (e_ (b_ rfl (h_ (c_ (a_ (f_ rfl) rfl (a_ (f_ rfl) rfl (X_ (ni_ hr1 (by have := hL1.length_eq; omega)) rfl (d_ Q_) (fun _ _ _ => by exact trivial) rfl fun ⟨Hq9, hq9⟩ => ?_)))))))
  dsimp only
  refine e_ (b_ rfl (al_ (bb_ (q_ i_) (cj_ aX_)) (h_ (c_ (a_ (f_ rfl) rfl (a_ (g_ rfl) rfl (e_ (b_ rfl (H_ ?_)))))))))
  rw [nV_ hL1 hE.nd] at hq9
  refine bw_ hq9 (d_ Q_) fun ad2 cp2 had2 hcad2 hmad2 hzad2 => ?_
  exact ap_ Tryz.results68 ⟨(ad2, cp2), hcad2, hmad2, hzad2⟩ (ca_ rfl had2) J_ (fun v _ h => ⟨h.1, trivial⟩)
theorem qH_ (mb : Nat) : Tri Tryz.prog 69 #[.map (some mb)] [] [] (fun bx : Nat => .func (.func 122) #[] #[zp_ bx 0]) (fun bx => [(bx, .cells #[.map (some mb)] 88 (0, 0))]) (fun _ => []) := by
  refine T_ Tryz.func69 rfl rfl Tryz.ntmps69 rfl fun v0 => ?_
  refine h_ (c_ (bh_ rfl rfl fun b1 => ?_))
  refine a_ (g_ rfl) rfl (e_ (b_ rfl (h_ (c_ (a_ (cQ_ rfl rfl) rfl (a_ (g_ rfl) rfl (e_ (b_ rfl (H_ ?_)))))))))
  exact ap_ Tryz.results69 b1 rfl (F := []) (.refl _) (fun _ _ _ => trivial)
end Go.Proofs.YtpdbbglpbngeiaaGreatDoor
namespace Go.Proofs.YtpdbbglpbngeiaaGreatDoor
open Go Go.Sx Go.Proofs
attribute [local irreducible] Code.wp wpList wpAnyH
open Go.Vs
theorem gM_ {A : List Str} {f : Fc} (h : cs_ A f = true) : f.form := by
  unfold cs_ at h
  simp only [Bool.and_eq_true, decide_eq_true_eq] at h
  obtain ⟨_, h⟩ := h
  split at h
  · simp only [Bool.and_eq_true, decide_eq_true_eq, dP_] at h
    exact .inl ⟨_, _, h.2⟩
  · split at h
    · simp only [Bool.and_eq_true, decide_eq_true_eq] at h
      exact .inr (.inl ⟨_, _, _, h.2.2, h.2.1⟩)
    · split at h
      · simp only [Bool.and_eq_true, decide_eq_true_eq] at h
        exact .inr (.inr ⟨_, _, _, _, h.2.1, h.1, h.2.2.1, h.2.2.2.1, h.2.2.2.2⟩)
      · simp at h
theorem hi_ {at' : List Str} {fs : List Fc} (h : dj_ at' fs = 0) : ChkC at' fs ∧ fs.length ≤ 65536 := by
  unfold dj_ at h
  split at h
  · rename_i h1
    split at h
    · simp at h
    · exact ⟨iS_.1 h1, by omega⟩
  · simp at h
def dR_ (p : List Pc) (at' : List Str) (fs l : List Fc) (e : Int) : Prop :=
  if bW_ p ≠ 0 then l = [] ∧ e = bW_ p
  else if dj_ at' fs ≠ 0 then l = [] ∧ e = dj_ at' fs
  else e = 0 ∧ Srt l ∧ ∀ y, y ∈ l ↔ ed_ p (atS p) (· ∈ fs) y ∧ y ∉ fs
theorem nz_ {p : List Pc} {at' : List Str} {fs : List Fc} (h : bW_ p ≠ 0) : dR_ p at' fs [] (bW_ p) := by unfold dR_; rw [if_pos h]; exact ⟨rfl, rfl⟩
theorem nA_ {p : List Pc} {at' : List Str} {fs : List Fc} (h : bW_ p = 0) (h2 : dj_ at' fs ≠ 0) : dR_ p at' fs [] (dj_ at' fs) := by unfold dR_; rw [if_neg (by simp [h]), if_pos h2]; exact ⟨rfl, rfl⟩
theorem pG_ {p : List Pc} {at' : List Str} {fs q fm : List Fc} {k : Nat} (h : bW_ p = 0) (h2 : dj_ at' fs = 0) (hI : InvN (uniq [] p) (atS p) fs k (q, fm)) (hk : fs.length ≤ k) (hk2 : k ≤ fs.length) (hn : q.Nodup) : dR_ p at' fs (fo_ q) 0 := by
  unfold dR_; rw [if_neg (by simp [h]), if_neg (by simp [h2])]
  obtain rfl : k = fs.length := by omega
  refine ⟨rfl, hH_ hn, fun y => ?_⟩
  rw [hI_, ks_ hI, lp_]
theorem ov_ {p : List Pc} {fs q : List Fc} {A : List Str} (hF : ∀ y ∈ fs, y.form) (hp : p.length ≤ 100) (hA : A.length ≤ 1000) (hl : fs.length ≤ 65536) (hn : q.Nodup) (hq : ∀ y ∈ q, ed_ p A (· ∈ fs) y) : q.length ≤ 1000000000000 := by
  have h1 := fm_ hn (m := cN_ p A ++ fs.flatMap (fun f => cc_ p fs f)) fun y hy => (gF_ hF y).2 (hq y hy)
  have h2 : (fs.flatMap (fun f => cc_ p fs f)).length ≤ fs.length * 14000000 := cW_ fs fun x _ => fE_ hp hl
  have h3 : (cN_ p A).length ≤ A.length * 102 := cW_ A fun x _ => by
    simp only [List.length_cons, List.length_map]
    have := List.length_filter_le (fun x : Pc => decide (x.kind = 7)) p
    omega
  rw [List.length_append] at h1
  omega
theorem pP_ (fs : List Fc) : Ix.nil.of (fun y => y ∈ List.take 0 fs) (fun _ => True) := by
  have e : (fun y => y ∈ fs.take 0) = (fun _ => False) := funext fun y => by simp
  rw [e]; exact Ix.of_nil _
theorem qJ_ {x : Ix} {fs : List Fc} {i : Nat} {f : Fc} (h : x.of (fun y => y ∈ List.take i fs) (fun _ => True)) (hf : fs[i]? = some f) : (x.add (decide (f ∈ List.take (i + 1) fs)) f).of (fun y => y ∈ List.take (i + 1) fs) (fun _ => True) := by
  have hm : f ∈ List.take (i + 1) fs := by rw [List.take_add_one, hf]; simp
  have := Ix.of_add h f (b := decide (f ∈ List.take (i + 1) fs)) (by simp [hm])
  have e : (fun y => y ∈ List.take (i + 1) fs) = (fun y => y ∈ List.take i fs ∨ y = f) := funext fun y => by rw [List.take_add_one, hf]; simp
  rw [e]; exact this
theorem qz_ {F Ha Hu Ho Hi Hr Hm : Hp} {a b c : Nat × Obj} : ((Ha ++ (Hu ++ (Ho ++ (Hi ++ (Hr ++ (Hm ++ [a, b, c])))))) ++ F).Perm (Ha ++ (Hu ++ (Ho ++ (Hi ++ (Hr ++ (Hm ++ (a :: b :: c :: F))))))) := by simp [List.append_assoc]
set_option maxHeartbeats 4000000 in
theorem pF_ (p : List Pc) (pad : Option Addr) (pcap : Nat) (c : Cl) (hsm : ∀ x ∈ p, x.sm) (hp : p.length ≤ 100) (hca : c.atoms.length ≤ 1000000000000) (hcf : c.facts.length ≤ 1000000000000) : Tri Tryz.prog 22 #[.slice pad (List.length p) pcap, Cl.val c] [] [az_ pad (List.flatMap Pc.cells p), hk_, az_ (Cl.aad c) (List.flatMap aH_ (Cl.atoms c)), az_ (Cl.fad c) (List.flatMap Fc.cells (Cl.facts c))] (fun y : {y : Option Addr × Nat × List Fc × Int // (y.2.2.1.length ≤ y.2.1 ∧ y.2.1 ≤ maxLen ∧ (y.1 = none → y.2.1 = 0)) ∧ dR_ p c.atoms c.facts y.2.2.1 y.2.2.2} => .tuple #[.slice y.1.1 y.1.2.2.1.length y.1.2.1, .int .i64 y.1.2.2.2]) (fun _ => []) (fun y => [az_ y.1.1 (y.1.2.2.1.flatMap Fc.cells)]) := by
 refine T_ Tryz.func22 rfl rfl Tryz.ntmps22 rfl fun v0 => ?_
 refine h_ (c_ (bh_ rfl rfl fun b1 => ?_))
 refine a_ (g_ rfl) rfl (a_ (g_ rfl) rfl (e_ (b_ rfl (h_ (h_ (c_ (a_ (f_ rfl) rfl (X_ (nK_ p pad pcap (by omega) hsm) rfl J_ (fun v _ h => by exact ⟨h.1, h.2.1, trivial⟩) rfl fun _ => ?_))))))))
 refine a_ (g_ rfl) rfl (e_ (b_ rfl (h_ (c_ (a_ (f_ rfl) rfl (y_ (cE_ rfl rfl) rfl fun r1 hr1 => ?_))))))
 refine e_ (b_ rfl ?_)
 cases r1
 ·
  replace hr1 := bo_ hr1
  have hchk := hr1
  refine v_ rfl (F_ (b_ rfl (h_ (h_ (c_ (a_ (ae_ 0 bI_ aI_ rfl rfl rfl) rfl (X_ (rp_ c hca hcf) rfl J_ (fun v _ h => by exact ⟨h.2.2.1, h.2.2.2.1, trivial⟩) rfl fun _ => ?_)))))))
  refine a_ (g_ rfl) rfl (e_ (b_ rfl (h_ (c_ (a_ (f_ rfl) rfl (y_ (cE_ rfl rfl) rfl fun r2 hr2 => ?_))))))
  refine e_ (b_ rfl ?_)
  cases r2
  ·
   replace hr2 := bo_ hr2
   have hchc := hr2
   refine v_ rfl (F_ (b_ rfl (h_ ?_)))
   have hvk := lo_ (iv_ hchk)
   obtain ⟨hcc, hfl⟩ := hi_ hchc
   have hform : ∀ y ∈ (Cl.facts c), y.form := fun y hy => gM_ (hcc.ok y hy)
   have hnd : ((Cl.facts c)).Nodup := hcc.sf.nodup
   have hpl : ∀ k, (lat (aS_ (uniq [] p)) k).length ≤ 1000000000 := fun k => by have h1 := eZ_ (aS_ (uniq [] p)) k; have h2 := hM_ (uniq [] p); have h3 := fD_ p []; simp only [List.length_nil] at h3; omega
   refine c_ (a_ (f_ rfl) rfl (X_ (iB_ p pad pcap (by omega)) rfl J_ (fun v _ h => by exact ⟨h.1, trivial⟩) rfl fun ⟨⟨g, pb, kb, ab, ub, ob, ib, rb, sb, fb, lv, hm0, hl0⟩, hy⟩ => ?_))
   dsimp only
   dsimp only [NewE.own, NewE.ok] at hy ⊢
   obtain ⟨hym, hyl⟩ := hy
   simp only [List.cons_append, List.append_assoc]
   refine bw_ hyl (d_ (d_ (d_ (d_ (d_ (d_ (d_ (d_ (d_ (q_ x_)))))))))) fun lad lcap hlad hclad hmlad hzlad => ?_
   subst hlad
   refine ay_ Tryz.zeroValue85 rfl fun b2 => ?_
   refine al_ (bb_ i_ (bb_ i_ (bb_ i_ (bb_ i_ (bb_ i_ (bb_ i_ (bb_ i_ (bb_ i_ (bb_ i_ (bb_ i_ (cj_ aX_))))))))))) (af_ 0 Tryz.sizeOf85 rfl rfl rfl rfl rfl rfl (e_ (b_ rfl (h_ (c_ (dm_ rfl fun nb => ?_))))))
   refine ay_ Tryz.zeroValue88 rfl fun b3 => ?_
   refine af_ 0 bB_ rfl rfl rfl rfl rfl rfl (e_ (b_ rfl (h_ (c_ (a_ (t_ 2 bC_ rfl rfl rfl) rfl (a_ (cQ_ rfl rfl) rfl (a_ (aq_ rfl) rfl (a_ (l_ K_ rfl rfl rfl aU_) rfl (af_ 3 aU_ rfl rfl rfl rfl rfl rfl ?_)))))))))
   refine e_ (b_ rfl (h_ (h_ (eX_ (cM_ b2 (.cells #[zp_ g 0] 85 (0, 0))) (cj_ (d_ (d_ i_))) (fun _ h1 h2 _ => ⟨h1, h2⟩) ?_))))
   refine eX_ (cM_ b3 (.cells #[.map (some nb)] 88 (0, 0))) (cj_ i_) (fun _ h1 h2 _ => ⟨h1, h2⟩) ?_
   refine eX_ (cM_ g (.cells #[.map (some pb), .slice lad (List.length (an_ (uniq [] p))) lcap, .map (some kb), .func (.func 67) #[] #[zp_ b2 0, zp_ b3 0], .map (some ab), .map (some ub), .map (some ob), .map (some ib), .map (some rb), .map (some sb), .map (some fb)] 94 (0, 0))) (cj_ (d_ i_)) (fun _ h1 h2 _ => ⟨h1, h2⟩) ?_
   refine lR_ fM_ hym (d_ (d_ (d_ (d_ (d_ (d_ (d_ (d_ (d_ Q_))))))))) fun adr => ?_
   refine c_ (a_ (l_ aw_ rfl rfl rfl bJ_) rfl (a_ (t_ 9 bx_ rfl rfl rfl) rfl (a_ (ar_ E_ rfl) rfl (a_ (f_ rfl) rfl (e_ (b_ rfl (N_ ?_)))))))
   refine aB_ (ι := {y : Nat × Ix × Array MapEntry × Nat × Array MapEntry × Nat × Hp × Hp × Hp × Hp × Hp × Hp // y.1 ≤ List.length (Cl.facts c) ∧ SetE Fc.val y.2.2.1 (List.take y.1 (Cl.facts c)) ∧ SetE Fc.val y.2.2.2.2.1 (List.take y.1 (Cl.facts c)) ∧ IxO 9 41 (EngB.mk g pb ab ub ob ib rb sb lad lcap (an_ (uniq [] p))) y.2.1 ⟨y.2.2.2.2.2.2.1, y.2.2.2.2.2.2.2.1, y.2.2.2.2.2.2.2.2.1, y.2.2.2.2.2.2.2.2.2.1, y.2.2.2.2.2.2.2.2.2.2.1, y.2.2.2.2.2.2.2.2.2.2.2⟩ ∧ ma_ y.2.1 y.1 ∧ y.2.1.of (fun z => z ∈ (List.take y.1 (Cl.facts c))) (fun _ => True)}) (fun y => [(0, .slice pad (List.length p) pcap), (3, zp_ b1 0), (8, zp_ b2 0), (9, zp_ b3 0), (35, .slice (Cl.fad c) (List.length (Cl.facts c)) (Cl.fcap c)), (36, .int .i64 (List.length (Cl.facts c) : Int)), (37, .int .i64 (y.1.1 : Int))]) (fun y => ((b1, .cells (Cl.cells c).toArray 28 (0, 0)) :: ((nb, .map #[] 0) :: ((kb, .map y.1.2.2.1 y.1.2.2.2.1) :: ((fb, .map y.1.2.2.2.2.1 y.1.2.2.2.2.2.1) :: (y.1.2.2.2.2.2.2.1 ++ (y.1.2.2.2.2.2.2.2.1 ++ (y.1.2.2.2.2.2.2.2.2.1 ++ (y.1.2.2.2.2.2.2.2.2.2.1 ++ (y.1.2.2.2.2.2.2.2.2.2.2.1 ++ y.1.2.2.2.2.2.2.2.2.2.2.2)))))))))) (fun y => [mlF Tryz.prog 171 Ky.val Pc.cells pb (aS_ (uniq [] p)) adr, cM_ g (.cells #[.map (some pb), .slice lad (List.length (an_ (uniq [] p))) lcap, .map (some kb), .func (.func 67) #[] #[zp_ b2 0, zp_ b3 0], .map (some ab), .map (some ub), .map (some ob), .map (some ib), .map (some rb), .map (some sb), .map (some fb)] 94 (0, 0)), cM_ b3 (.cells #[.map (some nb)] 88 (0, 0)), cM_ b2 (.cells #[zp_ g 0] 85 (0, 0)), az_ lad (List.flatMap aH_ (an_ (uniq [] p))), az_ pad (List.flatMap Pc.cells p), hk_, az_ (Cl.aad c) (List.flatMap aH_ (Cl.atoms c)), az_ (Cl.fad c) (List.flatMap Fc.cells (Cl.facts c))]) (fun y => List.length (Cl.facts c) - y.1.1) ⟨((0 : Nat), Ix.nil, #[], 0, #[], 0, [(ab, .map #[] 0)], [(ub, .map #[] 0)], [(ob, .map #[] 0)], [(ib, .map #[] 0)], [(rb, .map #[] 0)], [(sb, .map #[] 0)]), by simp, by exact SetE.nil, by exact SetE.nil, ⟨dt_.nil _ _, dt_.nil _ _, dt_.nil _ _, dt_.nil _ _, dt_.nil _ _, dt_.nil _ _⟩, lZ_, pP_ _⟩ ⟨rfl, rfl, rfl, rfl, rfl, rfl, rfl, trivial⟩ (o_ (d_ (d_ (d_ (d_ (d_ (d_ (d_ (d_ (d_ i_))))))))) (o_ i_ (o_ i_ (o_ (d_ (d_ (d_ (d_ (d_ (d_ i_)))))) (o_ i_ (o_ i_ (o_ i_ (o_ i_ (o_ i_ i_))))))))) (fun _ _ h => h) ?_
   rintro ⟨⟨i, x, es, c1, es2, c2, Ha, Hu, Ho, Hi, Hr, Hm⟩, hi, hK, hF, hI, hz, hxo⟩
   dsimp only at hi hK hF hI hz hxo ⊢
   obtain ⟨hxl, hyl⟩ := hQ_ hz (by omega)
   refine h_ (c_ (y_ (ax_ rfl rfl) rfl fun r3 hr3 => ?_))
   refine e_ (b_ rfl (h_ ?_))
   cases r3
   ·
    replace hr3 := of_decide_eq_false hr3
    have e9 : (List.take i (Cl.facts c)) = (Cl.facts c) := List.take_of_length_le (by omega)
    rw [e9] at hK hF hxo
    refine v_ rfl (as_ rfl (b_ rfl (h_ ?_)))
    refine aP_ ((b1, .cells (Cl.cells c).toArray 28 (0, 0)) :: (Ha ++ (Hu ++ (Ho ++ (Hi ++ (Hr ++ Hm)))))) (by kernel_rfl) ?_
    refine Z_ 2 [0, 1] (by kernel_rfl) (fun _ a b => ⟨Vw.sat.sub (a.perm (o_ i_ (C_ (d_ (d_ (d_ x_))) (C_ (d_ (d_ (d_ x_))) (C_ (d_ (d_ (d_ x_))) (C_ (d_ (d_ (d_ x_))) (C_ (d_ (d_ (d_ x_))) (d_ (d_ Q_))))))))), b⟩) (n_ rfl (ai_ bC_ rfl (fun v _ h => by exact h.2.2.2.1) rfl) rfl (n_ rfl (f_ rfl) rfl (Y_ (U_ 2 rfl (by kernel_rfl) (X_ (rr_ p pad pcap (by omega)) rfl J_ (fun v _ h => by exact ⟨h.2.2.2.2.2.1, trivial⟩) rfl fun ⟨⟨aad, acap⟩, hac, ham, haz⟩ => ?_)))))
    dsimp only
    refine e_ (w_ rfl (O_ (fun _ a b => ⟨Vw.sat.sub (a.perm (o_ i_ (C_ (d_ (d_ (d_ x_))) (C_ (d_ (d_ (d_ x_))) (C_ (d_ (d_ (d_ x_))) (C_ (d_ (d_ (d_ x_))) (C_ (d_ (d_ (d_ x_))) (d_ (d_ Q_))))))))), b.2⟩) (U_ 3 rfl (by kernel_rfl) (X_ (nM_ (EngB.mk g pb ab ub ob ib rb sb lad lcap (an_ (uniq [] p))) (EN (Cl.facts c) (EngB.mk g pb ab ub ob ib rb sb lad lcap (an_ (uniq [] p))) b2 b3 kb fb nb) [] (Cl.facts c) [(nb, .map #[] 0), (kb, .map es c1), (fb, .map es2 c2)] ⟨es, c1, es2, c2, (Cl.facts c), #[], 0, rfl, SetE.nil, hK, hF, fun _ => Iff.rfl, Born.nil 0⟩ (atS p) aad acap (by have := hj_ p; omega) (by have := gG_ (uniq [] p); have h3 := fD_ p []; simp only [List.length_nil] at h3; show (an_ (uniq [] p)).length ≤ _; omega)) rfl (o_ (d_ i_) (o_ (d_ i_) (d_ i_))) (fun v _ h => by exact ⟨h.2.2.1, h.2.2.2.2.2.1, h.1, ⟨h.2.2.2.2.1, h.2.2.2.1, h.2.2.1⟩, trivial⟩) rfl fun ⟨Hs1, hS1⟩ => ?_))))
    dsimp only
    refine e_ (w_ rfl (O_ (fun _ a b => ⟨Vw.sat.sub (a.perm (o_ (q_ i_) (C_ (q_ x_) (C_ (q_ x_) (C_ (q_ x_) (C_ (q_ x_) (C_ (q_ x_) aX_))))))), b.2⟩) (ab_ (by kernel_rfl) (b_ rfl (al_ (cj_ (q_ i_)) (h_ (c_ (a_ (ai_ bC_ rfl (fun v _ h => by exact h.2.2.2.2.1) rfl) rfl (X_ (nj_ g) rfl J_ (fun _ _ _ => by exact trivial) rfl fun ⟨r1, r2, r3⟩ => ?_)))))))))
    dsimp only
    refine ay_ Tryz.zeroValue98 rfl fun b4 => ?_
    refine af_ 0 Tryz.sizeOf98 rfl rfl rfl rfl rfl rfl (e_ (b_ rfl (h_ (h_ (c_ (a_ (l_ aw_ rfl rfl rfl bJ_) rfl (a_ (t_ 1 bx_ rfl rfl rfl) rfl (a_ (ar_ E_ rfl) rfl (a_ (f_ rfl) rfl ?_)))))))))
    refine e_ (b_ rfl (N_ ?_))
    refine aB_ (ι := {y : Nat × List Fc × List Fc × Hp // y.1 ≤ List.length (Cl.facts c) ∧ InvN (uniq [] p) (atS p) (Cl.facts c) y.1 (y.2.1, y.2.2.1) ∧ ((EN (Cl.facts c) (EngB.mk g pb ab ub ob ib rb sb lad lcap (an_ (uniq [] p))) b2 b3 kb fb nb)).St y.2.1 y.2.2.1 y.2.2.2}) (fun y => [(0, .slice pad (List.length p) pcap), (3, zp_ b1 0), (8, zp_ b2 0), (9, zp_ b3 0), (12, zp_ b4 0), (62, .slice (Cl.fad c) (List.length (Cl.facts c)) (Cl.fcap c)), (63, .int .i64 (List.length (Cl.facts c) : Int)), (64, .int .i64 (y.1.1 : Int))]) (fun y => ((b1, .cells (Cl.cells c).toArray 28 (0, 0)) :: ((b4, .cells #[.slice none 0 0, .slice (some ⟨r1, 0, none⟩) 6 6, .slice (some ⟨r2, 0, none⟩) 4 4, .slice (some ⟨r3, 0, none⟩) 2 2] 98 (0, 0)) :: (Ha ++ (Hu ++ (Ho ++ (Hi ++ (Hr ++ (Hm ++ y.1.2.2.2))))))))) (fun y => [az_ (some ⟨r1, 0, none⟩) (List.flatMap fvC (rlV g 1)), az_ (some ⟨r2, 0, none⟩) (List.flatMap fvC (rlV g 2)), az_ (some ⟨r3, 0, none⟩) (List.flatMap fvC (rlV g 3)), az_ aad (List.flatMap aH_ (atS p)), mlF Tryz.prog 171 Ky.val Pc.cells pb (aS_ (uniq [] p)) adr, cM_ g (.cells #[.map (some pb), .slice lad (List.length (an_ (uniq [] p))) lcap, .map (some kb), .func (.func 67) #[] #[zp_ b2 0, zp_ b3 0], .map (some ab), .map (some ub), .map (some ob), .map (some ib), .map (some rb), .map (some sb), .map (some fb)] 94 (0, 0)), cM_ b3 (.cells #[.map (some nb)] 88 (0, 0)), cM_ b2 (.cells #[zp_ g 0] 85 (0, 0)), az_ lad (List.flatMap aH_ (an_ (uniq [] p))), az_ pad (List.flatMap Pc.cells p), hk_, az_ (Cl.aad c) (List.flatMap aH_ (Cl.atoms c)), az_ (Cl.fad c) (List.flatMap Fc.cells (Cl.facts c))]) (fun y => List.length (Cl.facts c) - y.1.1) ⟨((0 : Nat), (emits (dE_ (Cl.facts c)) (dV_ (an_ (uniq [] p)) (atS p)) []), (Cl.facts c), Hs1), by simp, mS_ (fun _ h => h), by exact hS1⟩ ⟨rfl, rfl, rfl, rfl, rfl, rfl, rfl, rfl, trivial⟩ (o_ (d_ i_) (o_ i_ (C_ (q_ x_) (C_ (q_ x_) (C_ (q_ x_) (C_ (q_ x_) (C_ (q_ x_) (C_ aX_ aC_)))))))) (fun _ _ h => h) ?_
    rintro ⟨⟨k, q, fm, Hs⟩, hkl, hN, hS⟩
    dsimp only at hkl hN hS ⊢
    refine h_ (c_ (y_ (ax_ rfl rfl) rfl fun r4 hr4 => ?_))
    refine e_ (b_ rfl (h_ ?_))
    cases r4
    ·
     replace hr4 := of_decide_eq_false hr4
     refine v_ rfl (as_ rfl (b_ rfl (h_ ?_)))
     obtain ⟨es5, c5, es6, c6, q6, es7, c7, hHs, hE7, hE5, hE6, hq6, hB7⟩ := hS
     subst hHs
     have hone : ∀ y ∈ q, ed_ p (atS p) (· ∈ (Cl.facts c)) y := fun y hy => by have e : k = ((Cl.facts c)).length := (by omega); subst e; exact lp_.1 ((ks_ hN y).1 hy).1
     have hql := ov_ hform hp (by have := hj_ p; omega) hfl hE7.nd hone
     refine c_ (a_ (ai_ bH_ rfl (fun v _ h => by exact h.2.2.2.2.2.2.1) rfl) rfl (X_ (qH_ nb) rfl J_ (fun _ _ _ => by exact trivial) rfl fun bx => ?_))
     refine X_ (nX_ nb bx c7 es7 q hE7 hB7 hql) rfl (o_ i_ (d_ (d_ (q_ (q_ (q_ (q_ (q_ (q_ i_))))))))) (fun _ _ _ => by exact trivial) rfl fun ⟨⟨oad, ocap⟩, hoc, hom, hoz⟩ => ?_
     dsimp only
     refine a_ (g_ rfl) rfl (a_ (g_ rfl) rfl (e_ (b_ rfl (H_ ?_))))
     exact od_ Tryz.results22 ⟨(oad, ocap, fo_ q, 0), ⟨hoc, hom, hoz⟩, pG_ hchk hchc hN (by omega) (by omega) hE7.nd⟩ rfl rfl rfl J_ (fun v _ h => by exact ⟨h.1, trivial⟩)
    ·
     replace hr4 := of_decide_eq_true hr4
     have hlf2 : k < List.length (Cl.facts c) := by omega
     obtain ⟨f2, hf2⟩ : ∃ e0, (Cl.facts c)[k]? = some e0 := ⟨_, List.getElem?_eq_getElem hlf2⟩
     have hmf2 : f2 ∈ (Cl.facts c) := List.mem_of_getElem? hf2
     have hform2 := hform f2 hmf2
     obtain ⟨hxl, hyl⟩ := hQ_ hz (by omega)
     refine u_ rfl (F_ (b_ rfl (h_ (N_ (h_ (c_ (a_ (ad_ E_ B_ rfl rfl (fun v _ h => av_ (n := 6) Fc.cells_len (by decide) (by exact h.2.2.2.2.2.2.2.2.2.2.2.2.1) hf2) (by omega) (by first | omega | (simp; done))) rfl (a_ (aJ_ (ad := (Cl.fad c)) (us := Fc.cells f2) V_ B_ rfl (fun v _ h => by exact h.2.2.2.2.2.2.2.2.2.2.2.2.1) (Fc.cells_len _) (ag_ Fc.cells_len hf2)) rfl (ay_ ah_ rfl fun b5 => ?_)))))))))
     refine af_ 0 B_ rfl rfl rfl rfl rfl rfl (e_ (b_ rfl (h_ (c_ (a_ (l_ k_ rfl rfl rfl I_) rfl (a_ (t_ 0 L_ rfl rfl rfl) rfl ?_))))))
     rcases fd_ hform2 with hk | hk | hk
     ·
      refine a_ (bm_ (eh_ dY_ hB_ rfl rfl (by omega) (by omega)) (show _ = zp_ b4 1 from by rw [hk]; rfl)) rfl (a_ (t_ 2 mQ_ rfl rfl rfl) rfl (a_ (ar_ bv_ rfl) rfl (a_ (f_ rfl) rfl (e_ (b_ rfl (N_ ?_))))))
      refine aB_ (ι := {y : Nat × Hp // y.1 ≤ 6 ∧ ((EN (Cl.facts c) (EngB.mk g pb ab ub ob ib rb sb lad lcap (an_ (uniq [] p))) b2 b3 kb fb nb)).St (rls (dE_ (Cl.facts c)) (eJ_ (Cl.facts c)) (aS_ (uniq [] p)) x f2 y.1 (q, fm)).1 (rls (dE_ (Cl.facts c)) (eJ_ (Cl.facts c)) (aS_ (uniq [] p)) x f2 y.1 (q, fm)).2 y.2}) (fun y => [(0, .slice pad (List.length p) pcap), (3, zp_ b1 0), (8, zp_ b2 0), (9, zp_ b3 0), (12, zp_ b4 0), (14, zp_ b5 0), (62, .slice (Cl.fad c) (List.length (Cl.facts c)) (Cl.fcap c)), (63, .int .i64 (List.length (Cl.facts c) : Int)), (64, .int .i64 (k : Int)), (71, .slice (some ⟨r1, 0, none⟩) 6 6), (72, .int .i64 6), (73, .int .i64 (y.1.1 : Int))]) (fun y => ((b1, .cells (Cl.cells c).toArray 28 (0, 0)) :: ((b4, .cells #[.slice none 0 0, .slice (some ⟨r1, 0, none⟩) 6 6, .slice (some ⟨r2, 0, none⟩) 4 4, .slice (some ⟨r3, 0, none⟩) 2 2] 98 (0, 0)) :: ((b5, .cells (Fc.cells f2).toArray 41 (0, 0)) :: (Ha ++ (Hu ++ (Ho ++ (Hi ++ (Hr ++ (Hm ++ y.1.2)))))))))) (fun y => [az_ (some ⟨r1, 0, none⟩) (List.flatMap fvC (rlV g 1)), az_ (some ⟨r2, 0, none⟩) (List.flatMap fvC (rlV g 2)), az_ (some ⟨r3, 0, none⟩) (List.flatMap fvC (rlV g 3)), az_ aad (List.flatMap aH_ (atS p)), mlF Tryz.prog 171 Ky.val Pc.cells pb (aS_ (uniq [] p)) adr, cM_ g (.cells #[.map (some pb), .slice lad (List.length (an_ (uniq [] p))) lcap, .map (some kb), .func (.func 67) #[] #[zp_ b2 0, zp_ b3 0], .map (some ab), .map (some ub), .map (some ob), .map (some ib), .map (some rb), .map (some sb), .map (some fb)] 94 (0, 0)), cM_ b3 (.cells #[.map (some nb)] 88 (0, 0)), cM_ b2 (.cells #[zp_ g 0] 85 (0, 0)), az_ lad (List.flatMap aH_ (an_ (uniq [] p))), az_ pad (List.flatMap Pc.cells p), hk_, az_ (Cl.aad c) (List.flatMap aH_ (Cl.atoms c)), az_ (Cl.fad c) (List.flatMap Fc.cells (Cl.facts c))]) (fun y => 6 - y.1.1) ⟨((0 : Nat), Hs), by omega, by exact hS⟩ ⟨rfl, rfl, rfl, rfl, rfl, rfl, rfl, rfl, rfl, rfl, rfl, rfl, trivial⟩ (o_ (d_ i_) (o_ (d_ i_) (o_ i_ (C_ x_ (C_ x_ (C_ x_ (C_ x_ (C_ x_ (C_ x_ aC_))))))))) (fun _ _ h => h) ?_
      rintro ⟨⟨j, Hs⟩, hj, hS2⟩
      dsimp only at hj hS2 ⊢
      refine h_ (c_ (y_ (ax_ rfl rfl) rfl fun r5 hr5 => ?_))
      refine e_ (b_ rfl (h_ ?_))
      cases r5
      ·
       replace hr5 := of_decide_eq_false hr5
       have ej : j = 6 := by omega
       rw [ej] at hS2
       refine v_ rfl (as_ rfl (b_ rfl (c_ (a_ (M_ rfl rfl rfl (aj_ (by omega) (by omega))) rfl (a_ (f_ rfl) rfl (e_ (w_ rfl ?_)))))))
       exact aa_ ⟨(k + 1, (rls (dE_ (Cl.facts c)) (eJ_ (Cl.facts c)) (aS_ (uniq [] p)) x f2 6 (q, fm)).1, (rls (dE_ (Cl.facts c)) (eJ_ (Cl.facts c)) (aS_ (uniq [] p)) x f2 6 (q, fm)).2, Hs), hlf2, (io_ hvk hxo hform hN hf2 (by have e : nrl f2 = 6 := (by unfold nrl; simp [hk]); rw [e])), by exact (by exact hS2)⟩ (by dsimp only; omega) ⟨rfl, rfl, rfl, rfl, rfl, rfl, rfl, rfl, trivial⟩ (o_ i_ (o_ i_ (C_ (d_ x_) (C_ (d_ x_) (C_ (d_ x_) (C_ (d_ x_) (C_ (d_ x_) (C_ (d_ x_) Q_)))))))) (fun _ _ h => h)
      ·
       replace hr5 := of_decide_eq_true hr5
       have hlfv : j < List.length (rlV g 1) := by show j < 6; omega
       obtain ⟨fv, hfv⟩ : ∃ e0, (rlV g 1)[j]? = some e0 := ⟨_, List.getElem?_eq_getElem hlfv⟩
       have hmfv : fv ∈ (rlV g 1) := List.mem_of_getElem? hfv
       refine u_ rfl (F_ (b_ rfl (h_ (N_ (h_ (c_ (a_ (ad_ bv_ aU_ rfl rfl (fun v _ h => av_ (n := 1) ef_ (by decide) (by exact h.1) hfv) (by omega) (by omega)) rfl (a_ (aG_ (ad := (some ⟨r1, 0, none⟩)) bs_ rfl (fun v _ h => by exact h.1) (ag_ ef_ hfv 0 _ rfl)) rfl (a_ (g_ rfl) rfl ?_)))))))))
       refine e_ (b_ rfl (c_ (a_ (f_ rfl) rfl (a_ (ae_ 2 V_ B_ rfl rfl rfl) rfl ?_))))
       obtain ⟨nr, rfl, hT⟩ := nm_ (EngB.mk g pb ab ub ob ib rb sb lad lcap (an_ (uniq [] p))) (EN (Cl.facts c) (EngB.mk g pb ab ub ob ib rb sb lad lcap (an_ (uniq [] p))) b2 b3 kb fb nb) (EngA.mk adr (fun _ => (none, 0)) (fun _ => (none, 0)) (fun _ => (none, 0)) (fun _ => (none, 0)) (fun _ => (none, 0)) (fun _ => (none, 0))) (aS_ (uniq [] p)) x f2 (rls (dE_ (Cl.facts c)) (eJ_ (Cl.facts c)) (aS_ (uniq [] p)) x f2 j (q, fm)).1 (rls (dE_ (Cl.facts c)) (eJ_ (Cl.facts c)) (aS_ (uniq [] p)) x f2 j (q, fm)).2 Hs hS2 Ha Hu Ho Hi Hr Hm hI hpl hxl hyl (fun hk => (fn_ hform2 hk).2.2) (fun _ y hy => (hvk y (pm9.1 hy).1).num (.inr (pm9.1 hy).2.1)) hk j hfv
       refine ba_ (first := [zp_ g 0]) (vs := [Fc.val f2]) (cap := []) hT rfl rfl (ii_ (C_ (d_ (d_ (d_ x_))) (C_ (d_ (d_ (d_ x_))) (C_ (d_ (d_ (d_ x_))) (C_ (d_ (d_ (d_ x_))) (C_ (d_ (d_ (d_ x_))) (C_ (d_ (d_ (d_ x_))) (d_ (d_ Q_))))))))) (fun v _ h => by exact ⟨h.2.2.2.2.2.1, h.2.2.2.2.1, ⟨h.2.2.2.2.2.2.2.1, h.2.2.2.2.2.2.1, h.2.2.2.2.2.1⟩, trivial⟩) rfl fun ⟨Hs3, hS3⟩ => ?_
       refine al_ hb_ (e_ (b_ rfl (al_ (bb_ (q_ (q_ (q_ (q_ (q_ (q_ (q_ i_))))))) (bb_ (q_ (q_ (q_ (q_ (q_ (q_ (q_ i_))))))) (cj_ (q_ (q_ (q_ (q_ (q_ (q_ aX_))))))))) (c_ (a_ (M_ rfl rfl rfl (aj_ (by omega) (by omega))) rfl (a_ (f_ rfl) rfl (e_ (w_ rfl ?_))))))))
       exact aa_ ⟨(j + 1, Hs3), hlfv, by exact hS3⟩ (by dsimp only; omega) ⟨rfl, rfl, rfl, rfl, rfl, rfl, rfl, rfl, rfl, rfl, rfl, rfl, trivial⟩ (o_ i_ (o_ i_ (o_ i_ (C_ x_ (C_ x_ (C_ x_ (C_ x_ (C_ x_ (C_ x_ aC_))))))))) (fun _ _ h => h)
     ·
      refine a_ (bm_ (eh_ dY_ hB_ rfl rfl (by omega) (by omega)) (show _ = zp_ b4 2 from by rw [hk]; rfl)) rfl (a_ (t_ 2 mQ_ rfl rfl rfl) rfl (a_ (ar_ bv_ rfl) rfl (a_ (f_ rfl) rfl (e_ (b_ rfl (N_ ?_))))))
      refine aB_ (ι := {y : Nat × Hp // y.1 ≤ 4 ∧ ((EN (Cl.facts c) (EngB.mk g pb ab ub ob ib rb sb lad lcap (an_ (uniq [] p))) b2 b3 kb fb nb)).St (rls (dE_ (Cl.facts c)) (eJ_ (Cl.facts c)) (aS_ (uniq [] p)) x f2 y.1 (q, fm)).1 (rls (dE_ (Cl.facts c)) (eJ_ (Cl.facts c)) (aS_ (uniq [] p)) x f2 y.1 (q, fm)).2 y.2}) (fun y => [(0, .slice pad (List.length p) pcap), (3, zp_ b1 0), (8, zp_ b2 0), (9, zp_ b3 0), (12, zp_ b4 0), (14, zp_ b5 0), (62, .slice (Cl.fad c) (List.length (Cl.facts c)) (Cl.fcap c)), (63, .int .i64 (List.length (Cl.facts c) : Int)), (64, .int .i64 (k : Int)), (71, .slice (some ⟨r2, 0, none⟩) 4 4), (72, .int .i64 4), (73, .int .i64 (y.1.1 : Int))]) (fun y => ((b1, .cells (Cl.cells c).toArray 28 (0, 0)) :: ((b4, .cells #[.slice none 0 0, .slice (some ⟨r1, 0, none⟩) 6 6, .slice (some ⟨r2, 0, none⟩) 4 4, .slice (some ⟨r3, 0, none⟩) 2 2] 98 (0, 0)) :: ((b5, .cells (Fc.cells f2).toArray 41 (0, 0)) :: (Ha ++ (Hu ++ (Ho ++ (Hi ++ (Hr ++ (Hm ++ y.1.2)))))))))) (fun y => [az_ (some ⟨r1, 0, none⟩) (List.flatMap fvC (rlV g 1)), az_ (some ⟨r2, 0, none⟩) (List.flatMap fvC (rlV g 2)), az_ (some ⟨r3, 0, none⟩) (List.flatMap fvC (rlV g 3)), az_ aad (List.flatMap aH_ (atS p)), mlF Tryz.prog 171 Ky.val Pc.cells pb (aS_ (uniq [] p)) adr, cM_ g (.cells #[.map (some pb), .slice lad (List.length (an_ (uniq [] p))) lcap, .map (some kb), .func (.func 67) #[] #[zp_ b2 0, zp_ b3 0], .map (some ab), .map (some ub), .map (some ob), .map (some ib), .map (some rb), .map (some sb), .map (some fb)] 94 (0, 0)), cM_ b3 (.cells #[.map (some nb)] 88 (0, 0)), cM_ b2 (.cells #[zp_ g 0] 85 (0, 0)), az_ lad (List.flatMap aH_ (an_ (uniq [] p))), az_ pad (List.flatMap Pc.cells p), hk_, az_ (Cl.aad c) (List.flatMap aH_ (Cl.atoms c)), az_ (Cl.fad c) (List.flatMap Fc.cells (Cl.facts c))]) (fun y => 4 - y.1.1) ⟨((0 : Nat), Hs), by omega, by exact hS⟩ ⟨rfl, rfl, rfl, rfl, rfl, rfl, rfl, rfl, rfl, rfl, rfl, rfl, trivial⟩ (o_ (d_ i_) (o_ (d_ i_) (o_ i_ (C_ x_ (C_ x_ (C_ x_ (C_ x_ (C_ x_ (C_ x_ aC_))))))))) (fun _ _ h => h) ?_
      rintro ⟨⟨j, Hs⟩, hj, hS2⟩
      dsimp only at hj hS2 ⊢
      refine h_ (c_ (y_ (ax_ rfl rfl) rfl fun r6 hr6 => ?_))
      refine e_ (b_ rfl (h_ ?_))
      cases r6
      ·
       replace hr6 := of_decide_eq_false hr6
       have ej : j = 4 := by omega
       rw [ej] at hS2
       refine v_ rfl (as_ rfl (b_ rfl (c_ (a_ (M_ rfl rfl rfl (aj_ (by omega) (by omega))) rfl (a_ (f_ rfl) rfl (e_ (w_ rfl ?_)))))))
       exact aa_ ⟨(k + 1, (rls (dE_ (Cl.facts c)) (eJ_ (Cl.facts c)) (aS_ (uniq [] p)) x f2 4 (q, fm)).1, (rls (dE_ (Cl.facts c)) (eJ_ (Cl.facts c)) (aS_ (uniq [] p)) x f2 4 (q, fm)).2, Hs), hlf2, (io_ hvk hxo hform hN hf2 (by have e : nrl f2 = 4 := (by unfold nrl; simp [hk]); rw [e])), by exact (by exact hS2)⟩ (by dsimp only; omega) ⟨rfl, rfl, rfl, rfl, rfl, rfl, rfl, rfl, trivial⟩ (o_ i_ (o_ i_ (C_ (d_ x_) (C_ (d_ x_) (C_ (d_ x_) (C_ (d_ x_) (C_ (d_ x_) (C_ (d_ x_) Q_)))))))) (fun _ _ h => h)
      ·
       replace hr6 := of_decide_eq_true hr6
       have hlfv : j < List.length (rlV g 2) := by show j < 4; omega
       obtain ⟨fv, hfv⟩ : ∃ e0, (rlV g 2)[j]? = some e0 := ⟨_, List.getElem?_eq_getElem hlfv⟩
       have hmfv : fv ∈ (rlV g 2) := List.mem_of_getElem? hfv
       refine u_ rfl (F_ (b_ rfl (h_ (N_ (h_ (c_ (a_ (ad_ bv_ aU_ rfl rfl (fun v _ h => av_ (n := 1) ef_ (by decide) (by exact h.2.1) hfv) (by omega) (by omega)) rfl (a_ (aG_ (ad := (some ⟨r2, 0, none⟩)) bs_ rfl (fun v _ h => by exact h.2.1) (ag_ ef_ hfv 0 _ rfl)) rfl (a_ (g_ rfl) rfl ?_)))))))))
       refine e_ (b_ rfl (c_ (a_ (f_ rfl) rfl (a_ (ae_ 2 V_ B_ rfl rfl rfl) rfl ?_))))
       obtain ⟨nr, rfl, hT⟩ := nl_ (EngB.mk g pb ab ub ob ib rb sb lad lcap (an_ (uniq [] p))) (EN (Cl.facts c) (EngB.mk g pb ab ub ob ib rb sb lad lcap (an_ (uniq [] p))) b2 b3 kb fb nb) (EngA.mk adr (fun _ => (none, 0)) (fun _ => (none, 0)) (fun _ => (none, 0)) (fun _ => (none, 0)) (fun _ => (none, 0)) (fun _ => (none, 0))) (aS_ (uniq [] p)) x f2 (rls (dE_ (Cl.facts c)) (eJ_ (Cl.facts c)) (aS_ (uniq [] p)) x f2 j (q, fm)).1 (rls (dE_ (Cl.facts c)) (eJ_ (Cl.facts c)) (aS_ (uniq [] p)) x f2 j (q, fm)).2 Hs hS2 Ha Hu Ho Hi Hr Hm hI hpl hxl hyl (fun hk => (fn_ hform2 hk).2.2) (fun _ y hy => (hvk y (pm9.1 hy).1).num (.inr (pm9.1 hy).2.1)) hk j hfv
       refine ba_ (first := [zp_ g 0]) (vs := [Fc.val f2]) (cap := []) hT rfl rfl (ii_ (C_ (d_ (d_ (d_ x_))) (C_ (d_ (d_ (d_ x_))) (C_ (d_ (d_ (d_ x_))) (C_ (d_ (d_ (d_ x_))) (C_ (d_ (d_ (d_ x_))) (C_ (d_ (d_ (d_ x_))) (d_ (d_ Q_))))))))) (fun v _ h => by exact ⟨h.2.2.2.2.2.1, h.2.2.2.2.1, ⟨h.2.2.2.2.2.2.2.1, h.2.2.2.2.2.2.1, h.2.2.2.2.2.1⟩, trivial⟩) rfl fun ⟨Hs3, hS3⟩ => ?_
       refine al_ hb_ (e_ (b_ rfl (al_ (bb_ (q_ (q_ (q_ (q_ (q_ (q_ (q_ i_))))))) (bb_ (q_ (q_ (q_ (q_ (q_ (q_ (q_ i_))))))) (cj_ (q_ (q_ (q_ (q_ (q_ (q_ aX_))))))))) (c_ (a_ (M_ rfl rfl rfl (aj_ (by omega) (by omega))) rfl (a_ (f_ rfl) rfl (e_ (w_ rfl ?_))))))))
       exact aa_ ⟨(j + 1, Hs3), hlfv, by exact hS3⟩ (by dsimp only; omega) ⟨rfl, rfl, rfl, rfl, rfl, rfl, rfl, rfl, rfl, rfl, rfl, rfl, trivial⟩ (o_ i_ (o_ i_ (o_ i_ (C_ x_ (C_ x_ (C_ x_ (C_ x_ (C_ x_ (C_ x_ aC_))))))))) (fun _ _ h => h)
     ·
      refine a_ (bm_ (eh_ dY_ hB_ rfl rfl (by omega) (by omega)) (show _ = zp_ b4 3 from by rw [hk]; rfl)) rfl (a_ (t_ 2 mQ_ rfl rfl rfl) rfl (a_ (ar_ bv_ rfl) rfl (a_ (f_ rfl) rfl (e_ (b_ rfl (N_ ?_))))))
      refine aB_ (ι := {y : Nat × Hp // y.1 ≤ 2 ∧ ((EN (Cl.facts c) (EngB.mk g pb ab ub ob ib rb sb lad lcap (an_ (uniq [] p))) b2 b3 kb fb nb)).St (rls (dE_ (Cl.facts c)) (eJ_ (Cl.facts c)) (aS_ (uniq [] p)) x f2 y.1 (q, fm)).1 (rls (dE_ (Cl.facts c)) (eJ_ (Cl.facts c)) (aS_ (uniq [] p)) x f2 y.1 (q, fm)).2 y.2}) (fun y => [(0, .slice pad (List.length p) pcap), (3, zp_ b1 0), (8, zp_ b2 0), (9, zp_ b3 0), (12, zp_ b4 0), (14, zp_ b5 0), (62, .slice (Cl.fad c) (List.length (Cl.facts c)) (Cl.fcap c)), (63, .int .i64 (List.length (Cl.facts c) : Int)), (64, .int .i64 (k : Int)), (71, .slice (some ⟨r3, 0, none⟩) 2 2), (72, .int .i64 2), (73, .int .i64 (y.1.1 : Int))]) (fun y => ((b1, .cells (Cl.cells c).toArray 28 (0, 0)) :: ((b4, .cells #[.slice none 0 0, .slice (some ⟨r1, 0, none⟩) 6 6, .slice (some ⟨r2, 0, none⟩) 4 4, .slice (some ⟨r3, 0, none⟩) 2 2] 98 (0, 0)) :: ((b5, .cells (Fc.cells f2).toArray 41 (0, 0)) :: (Ha ++ (Hu ++ (Ho ++ (Hi ++ (Hr ++ (Hm ++ y.1.2)))))))))) (fun y => [az_ (some ⟨r1, 0, none⟩) (List.flatMap fvC (rlV g 1)), az_ (some ⟨r2, 0, none⟩) (List.flatMap fvC (rlV g 2)), az_ (some ⟨r3, 0, none⟩) (List.flatMap fvC (rlV g 3)), az_ aad (List.flatMap aH_ (atS p)), mlF Tryz.prog 171 Ky.val Pc.cells pb (aS_ (uniq [] p)) adr, cM_ g (.cells #[.map (some pb), .slice lad (List.length (an_ (uniq [] p))) lcap, .map (some kb), .func (.func 67) #[] #[zp_ b2 0, zp_ b3 0], .map (some ab), .map (some ub), .map (some ob), .map (some ib), .map (some rb), .map (some sb), .map (some fb)] 94 (0, 0)), cM_ b3 (.cells #[.map (some nb)] 88 (0, 0)), cM_ b2 (.cells #[zp_ g 0] 85 (0, 0)), az_ lad (List.flatMap aH_ (an_ (uniq [] p))), az_ pad (List.flatMap Pc.cells p), hk_, az_ (Cl.aad c) (List.flatMap aH_ (Cl.atoms c)), az_ (Cl.fad c) (List.flatMap Fc.cells (Cl.facts c))]) (fun y => 2 - y.1.1) ⟨((0 : Nat), Hs), by omega, by exact hS⟩ ⟨rfl, rfl, rfl, rfl, rfl, rfl, rfl, rfl, rfl, rfl, rfl, rfl, trivial⟩ (o_ (d_ i_) (o_ (d_ i_) (o_ i_ (C_ x_ (C_ x_ (C_ x_ (C_ x_ (C_ x_ (C_ x_ aC_))))))))) (fun _ _ h => h) ?_
      rintro ⟨⟨j, Hs⟩, hj, hS2⟩
      dsimp only at hj hS2 ⊢
      refine h_ (c_ (y_ (ax_ rfl rfl) rfl fun r7 hr7 => ?_))
      refine e_ (b_ rfl (h_ ?_))
      cases r7
      ·
       replace hr7 := of_decide_eq_false hr7
       have ej : j = 2 := by omega
       rw [ej] at hS2
       refine v_ rfl (as_ rfl (b_ rfl (c_ (a_ (M_ rfl rfl rfl (aj_ (by omega) (by omega))) rfl (a_ (f_ rfl) rfl (e_ (w_ rfl ?_)))))))
       exact aa_ ⟨(k + 1, (rls (dE_ (Cl.facts c)) (eJ_ (Cl.facts c)) (aS_ (uniq [] p)) x f2 2 (q, fm)).1, (rls (dE_ (Cl.facts c)) (eJ_ (Cl.facts c)) (aS_ (uniq [] p)) x f2 2 (q, fm)).2, Hs), hlf2, (io_ hvk hxo hform hN hf2 (by have e : nrl f2 = 2 := (by unfold nrl; simp [hk]); rw [e])), by exact (by exact hS2)⟩ (by dsimp only; omega) ⟨rfl, rfl, rfl, rfl, rfl, rfl, rfl, rfl, trivial⟩ (o_ i_ (o_ i_ (C_ (d_ x_) (C_ (d_ x_) (C_ (d_ x_) (C_ (d_ x_) (C_ (d_ x_) (C_ (d_ x_) Q_)))))))) (fun _ _ h => h)
      ·
       replace hr7 := of_decide_eq_true hr7
       have hlfv : j < List.length (rlV g 3) := by show j < 2; omega
       obtain ⟨fv, hfv⟩ : ∃ e0, (rlV g 3)[j]? = some e0 := ⟨_, List.getElem?_eq_getElem hlfv⟩
       have hmfv : fv ∈ (rlV g 3) := List.mem_of_getElem? hfv
       refine u_ rfl (F_ (b_ rfl (h_ (N_ (h_ (c_ (a_ (ad_ bv_ aU_ rfl rfl (fun v _ h => av_ (n := 1) ef_ (by decide) (by exact h.2.2.1) hfv) (by omega) (by omega)) rfl (a_ (aG_ (ad := (some ⟨r3, 0, none⟩)) bs_ rfl (fun v _ h => by exact h.2.2.1) (ag_ ef_ hfv 0 _ rfl)) rfl (a_ (g_ rfl) rfl ?_)))))))))
       refine e_ (b_ rfl (c_ (a_ (f_ rfl) rfl (a_ (ae_ 2 V_ B_ rfl rfl rfl) rfl ?_))))
       obtain ⟨nr, rfl, hT⟩ := nk_ (EngB.mk g pb ab ub ob ib rb sb lad lcap (an_ (uniq [] p))) (EN (Cl.facts c) (EngB.mk g pb ab ub ob ib rb sb lad lcap (an_ (uniq [] p))) b2 b3 kb fb nb) (EngA.mk adr (fun _ => (none, 0)) (fun _ => (none, 0)) (fun _ => (none, 0)) (fun _ => (none, 0)) (fun _ => (none, 0)) (fun _ => (none, 0))) (aS_ (uniq [] p)) x f2 (rls (dE_ (Cl.facts c)) (eJ_ (Cl.facts c)) (aS_ (uniq [] p)) x f2 j (q, fm)).1 (rls (dE_ (Cl.facts c)) (eJ_ (Cl.facts c)) (aS_ (uniq [] p)) x f2 j (q, fm)).2 Hs hS2 Ha Hu Ho Hi Hr Hm hI hpl hxl hyl (fun hk => (fn_ hform2 hk).2.2) (fun _ y hy => (hvk y (pm9.1 hy).1).num (.inr (pm9.1 hy).2.1)) hk j hfv
       refine ba_ (first := [zp_ g 0]) (vs := [Fc.val f2]) (cap := []) hT rfl rfl (ii_ (C_ (d_ (d_ (d_ x_))) (C_ (d_ (d_ (d_ x_))) (C_ (d_ (d_ (d_ x_))) (C_ (d_ (d_ (d_ x_))) (C_ (d_ (d_ (d_ x_))) (C_ (d_ (d_ (d_ x_))) (d_ (d_ Q_))))))))) (fun v _ h => by exact ⟨h.2.2.2.2.2.1, h.2.2.2.2.1, ⟨h.2.2.2.2.2.2.2.1, h.2.2.2.2.2.2.1, h.2.2.2.2.2.1⟩, trivial⟩) rfl fun ⟨Hs3, hS3⟩ => ?_
       refine al_ hb_ (e_ (b_ rfl (al_ (bb_ (q_ (q_ (q_ (q_ (q_ (q_ (q_ i_))))))) (bb_ (q_ (q_ (q_ (q_ (q_ (q_ (q_ i_))))))) (cj_ (q_ (q_ (q_ (q_ (q_ (q_ aX_))))))))) (c_ (a_ (M_ rfl rfl rfl (aj_ (by omega) (by omega))) rfl (a_ (f_ rfl) rfl (e_ (w_ rfl ?_))))))))
       exact aa_ ⟨(j + 1, Hs3), hlfv, by exact hS3⟩ (by dsimp only; omega) ⟨rfl, rfl, rfl, rfl, rfl, rfl, rfl, rfl, rfl, rfl, rfl, rfl, trivial⟩ (o_ i_ (o_ i_ (o_ i_ (C_ x_ (C_ x_ (C_ x_ (C_ x_ (C_ x_ (C_ x_ aC_))))))))) (fun _ _ h => h)
   ·
    replace hr3 := of_decide_eq_true hr3
    have hlf : i < List.length (Cl.facts c) := by omega
    obtain ⟨f, hf⟩ : ∃ e0, (Cl.facts c)[i]? = some e0 := ⟨_, List.getElem?_eq_getElem hlf⟩
    have hmf : f ∈ (Cl.facts c) := List.mem_of_getElem? hf
    refine u_ rfl (F_ (b_ rfl (h_ (N_ (h_ (c_ (a_ (ad_ E_ B_ rfl rfl (fun v _ h => av_ (n := 6) Fc.cells_len (by decide) (by exact h.2.2.2.2.2.2.2.2.1) hf) (by omega) (by first | omega | (simp; done))) rfl (a_ (aJ_ (ad := (Cl.fad c)) (us := Fc.cells f) V_ B_ rfl (fun v _ h => by exact h.2.2.2.2.2.2.2.2.1) (Fc.cells_len _) (ag_ Fc.cells_len hf)) rfl (ay_ ah_ rfl fun b6 => ?_)))))))))
    refine af_ 0 B_ rfl rfl rfl rfl rfl rfl (e_ (b_ rfl (h_ ?_)))
    refine aP_ ((b6, .cells (Fc.cells f).toArray 41 (0, 0)) :: ((b1, .cells (Cl.cells c).toArray 28 (0, 0)) :: ((nb, .map #[] 0) :: (Ha ++ (Hu ++ (Ho ++ (Hi ++ (Hr ++ Hm)))))))) (by kernel_rfl) ?_
    refine Z_ 1 [0, 1, 2, 3, 4] (by kernel_rfl) (fun _ a b => ⟨Vw.sat.sub (a.perm (o_ i_ (o_ i_ (o_ i_ (C_ (d_ (d_ x_)) (C_ (d_ (d_ x_)) (C_ (d_ (d_ x_)) (C_ (d_ (d_ x_)) (C_ (d_ (d_ x_)) (d_ Q_)))))))))), b⟩) (n_ rfl (ai_ bC_ rfl (fun v _ h => by exact h.2.2.2.1) rfl) rfl (n_ rfl (aq_ rfl) rfl (n_ rfl (l_ K_ rfl rfl rfl bB_) rfl (n_ rfl (ai_ bH_ rfl (fun v _ h => by exact h.2.1) rfl) rfl (n_ rfl (ae_ 0 V_ B_ rfl rfl rfl) rfl (Y_ (U_ 5 rfl (by kernel_rfl) (fG_ (k := f) 3 fN_ (.inr rfl) aV_ rfl rfl rfl rfl hK fun ej1 cj1 hj1 => ?_))))))))
    refine e_ (w_ rfl (O_ (fun _ a b => ⟨Vw.sat.sub (a.perm (o_ i_ (o_ i_ (o_ i_ (C_ (d_ (d_ x_)) (C_ (d_ (d_ x_)) (C_ (d_ (d_ x_)) (C_ (d_ (d_ x_)) (C_ (d_ (d_ x_)) (d_ Q_)))))))))), b⟩) (ab_ (by kernel_rfl) (b_ rfl (h_ ?_)))))
    refine aP_ ((b6, .cells (Fc.cells f).toArray 41 (0, 0)) :: ((b1, .cells (Cl.cells c).toArray 28 (0, 0)) :: ((nb, .map #[] 0) :: (Ha ++ (Hu ++ (Ho ++ (Hi ++ (Hr ++ Hm)))))))) (by kernel_rfl) ?_
    refine Z_ 1 [0, 1, 2, 3, 4] (by kernel_rfl) (fun _ a b => ⟨Vw.sat.sub (a.perm (o_ i_ (o_ i_ (o_ i_ (C_ (d_ (d_ x_)) (C_ (d_ (d_ x_)) (C_ (d_ (d_ x_)) (C_ (d_ (d_ x_)) (C_ (d_ (d_ x_)) (d_ Q_)))))))))), b⟩) (n_ rfl (ai_ bC_ rfl (fun v _ h => by exact h.2.2.2.1) rfl) rfl (n_ rfl (aq_ rfl) rfl (n_ rfl (l_ K_ rfl rfl rfl bB_) rfl (n_ rfl (ai_ bH_ rfl (fun v _ h => by exact h.2.1) rfl) rfl (n_ rfl (ae_ 0 V_ B_ rfl rfl rfl) rfl (Y_ (U_ 5 rfl (by kernel_rfl) (fG_ (k := f) 4 fN_ (.inr rfl) aV_ rfl rfl rfl rfl hF fun ej2 cj2 hj2 => ?_))))))))
    refine e_ (w_ rfl (O_ (fun _ a b => ⟨Vw.sat.sub (a.perm (o_ i_ (o_ i_ (o_ i_ (C_ (d_ (d_ x_)) (C_ (d_ (d_ x_)) (C_ (d_ (d_ x_)) (C_ (d_ (d_ x_)) (C_ (d_ (d_ x_)) (d_ Q_)))))))))), b⟩) (ab_ (by kernel_rfl) (b_ rfl ?_))))
    have hK1 := (ja_ hnd hf) ▸ hj1
    have hF1 := (ja_ hnd hf) ▸ hj2
    refine c_ (a_ (ai_ bC_ rfl (fun v _ h => by exact h.2.2.2.1) rfl) rfl (a_ (ae_ 0 V_ B_ rfl rfl rfl) rfl (X_ (nD_ (EngB.mk g pb ab ub ob ib rb sb lad lcap (an_ (uniq [] p))) (EN (List.take (i + 1) (Cl.facts c)) (EngB.mk g pb ab ub ob ib rb sb lad lcap (an_ (uniq [] p))) b2 b3 kb fb nb) x f [] (List.take (i + 1) (Cl.facts c)) [(nb, .map #[] 0), (kb, .map ej1 cj1), (fb, .map ej2 cj2)] ⟨ej1, cj1, ej2, cj2, (List.take (i + 1) (Cl.facts c)), #[], 0, rfl, SetE.nil, hK1, hF1, fun _ => Iff.rfl, Born.nil 0⟩ Ha Hu Ho Hi Hr Hm hI hxl hyl) rfl (C_ (d_ (d_ (d_ (d_ (d_ x_))))) (C_ (d_ (d_ (d_ (d_ (d_ x_))))) (C_ (d_ (d_ (d_ (d_ (d_ x_))))) (C_ (d_ (d_ (d_ (d_ (d_ x_))))) (C_ (d_ (d_ (d_ (d_ (d_ x_))))) (C_ (d_ (d_ (d_ (d_ Q_)))) (o_ (d_ (d_ i_)) (o_ (d_ (d_ i_)) (d_ (d_ i_)))))))))) (fun v _ h => by exact ⟨h.2.1, trivial⟩) rfl fun ⟨⟨Ha1, Hu1, Ho1, Hi1, Hr1, Hm1⟩, hI1⟩ => ?_)))
    dsimp only
    refine al_ qz_ (e_ (b_ rfl (al_ (bb_ (q_ (q_ (q_ (q_ (q_ (q_ i_)))))) (bb_ (q_ (q_ (q_ (q_ (q_ (q_ i_)))))) (bb_ (q_ (q_ (q_ (q_ (q_ (q_ i_)))))) (bb_ (q_ (q_ (q_ (q_ (q_ (q_ i_)))))) (cj_ (q_ (q_ (q_ (q_ (q_ aX_)))))))))) (c_ (a_ (M_ rfl rfl rfl (aj_ (by omega) (by omega))) rfl (a_ (f_ rfl) rfl (e_ (w_ rfl ?_))))))))
    exact aa_ ⟨(i + 1, (Ix.add x (decide (f ∈ (List.take (i + 1) (Cl.facts c)))) f), ej1, cj1, ej2, cj2, Ha1, Hu1, Ho1, Hi1, Hr1, Hm1), hlf, hK1, hF1, hI1, (gH_ hz _ f), qJ_ hxo hf⟩ (by dsimp only; omega) ⟨rfl, rfl, rfl, rfl, rfl, rfl, rfl, trivial⟩ (o_ (d_ (d_ (d_ (d_ i_)))) (o_ i_ (o_ i_ (o_ i_ (C_ (d_ x_) (C_ (d_ x_) (C_ (d_ x_) (C_ (d_ x_) (C_ (d_ x_) Q_))))))))) (fun _ _ h => h)
  ·
   replace hr2 := bn_ hr2
   refine u_ rfl (h_ (c_ (a_ (f_ rfl) rfl (a_ (g_ rfl) rfl (a_ (g_ rfl) rfl (e_ (b_ rfl (H_ ?_))))))))
   exact od_ Tryz.results22 ⟨(none, 0, [], (dj_ (Cl.atoms c) (Cl.facts c))), ⟨Nat.le_refl _, by simp, fun _ => rfl⟩, nA_ (by assumption) (by assumption)⟩ rfl rfl rfl J_ (fun v _ h => by exact ⟨.inl rfl, trivial⟩)
 ·
  replace hr1 := bn_ hr1
  refine u_ rfl (h_ (c_ (a_ (f_ rfl) rfl (a_ (g_ rfl) rfl (a_ (g_ rfl) rfl (e_ (b_ rfl (H_ ?_))))))))
  exact od_ Tryz.results22 ⟨(none, 0, [], (bW_ p)), ⟨Nat.le_refl _, by simp, fun _ => rfl⟩, nz_ (by assumption)⟩ rfl rfl rfl J_ (fun v _ h => by exact ⟨.inl rfl, trivial⟩)
end Go.Proofs.YtpdbbglpbngeiaaGreatDoor
namespace Go.Proofs.YtpdbbglpbngeiaaGreatDoor
open Go Go.Sx Go.Proofs
attribute [local irreducible] Code.wp wpList wpAnyH
open Go.Vs
theorem dE {p : Prop} {i : Decidable p} : (@decide p i = true) ↔ p := ⟨fun h => of_decide_eq_true h, fun h => decide_eq_true h⟩
theorem nN_ (p : List Pc) : [42] ∈ atS p := (gm_ p _).2 (.inr (.inl rfl))
theorem kZ_ (p : List Pc) : [33] ∈ atS p := (gm_ p _).2 (.inr (.inr rfl))
theorem at_of {p : List Pc} {x : Pc} (hx : x ∈ p) {s : Str} (hs : s = x.a ∨ s = x.b ∨ s = x.c) (hn : s ≠ []) : s ∈ atS p := by
  refine (gm_ p s).2 (.inl ((ej_ p s).2 ?_))
  refine List.mem_flatMap.2 ⟨x, hx, List.mem_filter.2 ⟨?_, by simpa using hn⟩⟩
  rcases hs with rfl | rfl | rfl <;> simp
theorem rb_ {s : Str} (h : bd_ s = true) : s ≠ [] := fun e => by subst e; revert h; decide
theorem qp_ {p : Pc} (h : p.valid = true) (hk : p.kind = 1 ∨ p.kind = 2 ∨ p.kind = 3 ∨ p.kind = 4 ∨ p.kind = 9) : p.c ≠ [] := by
  unfold Pc.valid at h
  split at h
  · simp at h
  split at h
  · simp at h
  split at h
  · simp at h
  simp only [Bool.and_eq_true] at h
  obtain ⟨⟨⟨⟨_, hc⟩, _⟩, _⟩, _⟩ := h
  have key : ∀ {b : Bool}, ck_ b p.c bd_ = true → b = true → p.c ≠ [] := fun h1 h2 => by
    subst h2; simp [ck_] at h1; exact rb_ h1
  rcases hk with q | q | q | q | q <;> rw [q] at hc <;> exact key hc (by decide)
theorem fo1 {A : List Str} {a b : Str} : cs_ A (ak_ a b) = true ↔ a ∈ A ∧ b ∈ A := by
  unfold cs_ ak_ dP_
  dsimp only
  rw [if_pos rfl, Bool.and_eq_true, Bool.and_eq_true, dE, dE, dE]
  simp [ak_]
theorem fo2 {A : List Str} {a r b : Str} : cs_ A (au_ a r b) = true ↔ a ∈ A ∧ b ∈ A ∧ r ≠ [] := by
  unfold cs_ au_
  dsimp only
  rw [if_neg (by decide), if_pos rfl, Bool.and_eq_true, Bool.and_eq_true, Bool.and_eq_true, dE, dE, dE, dE]
  simp [au_]
theorem fo3 {A : List Str} {a r : Str} {lo hi : Int} : cs_ A (aF_ a r lo hi) = true ↔ a ∈ A ∧ r ≠ [] ∧ -1099511627776 ≤ lo ∧ lo ≤ hi ∧ hi ≤ 1099511627776 := by
  unfold cs_ aF_
  dsimp only
  rw [if_neg (by decide), if_neg (by decide), if_pos rfl, Bool.and_eq_true, Bool.and_eq_true, Bool.and_eq_true, Bool.and_eq_true, Bool.and_eq_true, dE, dE, dE, dE, dE, dE]
  simp [aF_]
theorem one_ok {p : List Pc} {S : Fc → Prop} (hp : ∀ x ∈ p, x.valid = true) (hS : ∀ y, S y → cs_ (atS p) y = true) {y : Fc} (h : ed_ p (atS p) S y) : cs_ (atS p) y = true := by
  have hc : ∀ {x : Pc}, x ∈ p → (x.kind = 1 ∨ x.kind = 2 ∨ x.kind = 3 ∨ x.kind = 4 ∨ x.kind = 9) → x.c ∈ atS p := fun hx hk => at_of hx (.inr (.inr rfl)) (qp_ (hp _ hx) hk)
  have hv : ∀ {x : Pc}, x ∈ p → x.vok := fun hx => jV_ (hp _ hx)
  cases h with
  | r1 h => exact fo1.2 ⟨h, h⟩
  | r2 h => exact fo1.2 ⟨h, nN_ p⟩
  | r10 hx hk h => exact fo2.2 ⟨h, h, (hv hx).rok.1 (by simp [hk])⟩
  | r3 hx hk h => exact fo1.2 ⟨(fo1.1 (hS _ h)).1, hc hx (by simp [hk])⟩
  | r4 hx hk h h' => exact fo1.2 ⟨(fo1.1 (hS _ h)).1, hc hx (by simp [hk])⟩
  | r5 hx hk h => exact fo2.2 ⟨(fo1.1 (hS _ h)).1, hc hx (by simp [hk]), (hv hx).rok.1 (by simp [hk])⟩
  | r6 hx hk h => exact fo2.2 ⟨(fo2.1 (hS _ h)).1, (fo2.1 (hS _ h)).2.1, (hv hx).rok.2.2 hk⟩
  | r7 hx hk h h' => exact fo2.2 ⟨(fo2.1 (hS _ h)).1, (fo2.1 (hS _ h')).2.1, ((hv hx).rok.2.1 hk).2⟩
  | r8 hx hk h h' => exact fo1.2 ⟨(fo2.1 (hS _ h)).1, hc hx (by simp [hk])⟩
  | r9 h h' => exact fo1.2 ⟨(fo2.1 (hS _ h)).1, kZ_ p⟩
  | r11 hx hk h => exact fo3.2 ⟨(fo1.1 (hS _ h)).1, (hv hx).rok.1 (by simp [hk]), (hv hx).num (.inl hk)⟩
  | r12 h h' hm hl =>
    have h1 := fo3.1 (hS _ h)
    have h2 := fo3.1 (hS _ h')
    exact fo3.2 ⟨h1.1, h1.2.1, by omega, hl, by omega⟩
  | r13 h h' hm hl => exact fo1.2 ⟨(fo3.1 (hS _ h)).1, kZ_ p⟩
  | r14 hx hk h h1 h2 => exact fo1.2 ⟨(fo3.1 (hS _ h)).1, hc hx (by simp [hk])⟩
theorem der_ok {p : List Pc} (hp : ∀ x ∈ p, x.valid = true) {y : Fc} (h : Der p (atS p) y) : cs_ (atS p) y = true := h _ fun _ hy => one_ok hp (fun _ h => h) hy
theorem mo_ {p : List Pc} (h : bW_ p = 0) : ∀ x ∈ p, x.valid = true := fun x hx => List.all_eq_true.1 (mp_ h).2 x hx
theorem oP_ {p : List Pc} {m : Nat} {L : List Fc} (hp : bW_ p = 0) (h : eL_ p (atS p) m (some L)) (hm : m ≤ 65536) : dj_ (atS p) L = 0 :=
  (kY_ ⟨lb_ p, h.1, nN_ p, kZ_ p, fun f hf => der_ok (mo_ hp) ((h.2.1 f).1 hf)⟩ (by have := h.2.2; omega)).symm
theorem lf_ {p : List Pc} {A : List Str} {m : Nat} {L : List Fc} (h : eL_ p A m (some L)) {y : Fc} (hy : ed_ p A (· ∈ L) y) : y ∈ L :=
  (h.2.1 y).2 (Der.step (hy.mono (fun x hx => ⟨x, hx, x.frm, rfl⟩) (fun _ h => h) (fun z hz => (h.2.1 z).1 hz) (fun _ _ h => h)))
theorem fb_.good {p : List Pc} {bu : Int} {c : Cl} (h : fb_ p bu c 0) : bW_ p = 0 ∧ 0 ≤ bu ∧ bu ≤ 1073741824 ∧ c.ok ∧ c.atoms = atS p ∧ eL_ p (atS p) (min bu 65536).toNat (some c.facts) := by
  unfold fb_ at h
  split at h
  · rename_i h1; exact absurd h.2.symm h1
  · rename_i h1
    split at h
    · exact absurd h.2 (by decide)
    · rename_i h2
      rcases h with h | h
      · exact ⟨by simpa using h1, by omega, by omega, h.2⟩
      · have := h.2.1; split at this <;> exact absurd this (by decide)
theorem fb_.bad {p : List Pc} {bu : Int} {c : Cl} {e : Int} (h : fb_ p bu c e) (he : e ≠ 0) : c = Cl.no := by
  unfold fb_ at h
  split at h
  · exact h.1
  · split at h
    · exact h.1
    · rcases h with h | h
      · exact absurd h.1 he
      · exact h.1
theorem fb_.ok {p : List Pc} {bu : Int} {c : Cl} {e : Int} (h : fb_ p bu c e) : c.ok := by
  by_cases he : e = 0
  · subst he; exact h.good.2.2.2.1
  · rw [h.bad he]; exact Cl.no_ok
theorem fb_.len {p : List Pc} {bu : Int} {c : Cl} {e : Int} (h : fb_ p bu c e) : c.atoms.length ≤ 3 * p.length + 2 ∧ c.facts.length ≤ 65536 := by
  by_cases he : e = 0
  · subst he
    obtain ⟨_, _, _, _, h1, h2⟩ := h.good
    refine ⟨by rw [h1]; exact hj_ p, ?_⟩
    have := h2.2.2
    omega
  · rw [h.bad he]; simp [Cl.no]
theorem le_ {p : List Pc} {bu : Int} {c : Cl} {e : Int} {r : Option (List Fc)} (h : fb_ p bu c e) (hc : bW_ p = 0) (hb : 0 ≤ bu) (hb2 : bu ≤ 1073741824) (hr : eL_ p (atS p) (min bu 65536).toNat r) : (∀ L, r = some L → e = 0 ∧ c.facts = L ∧ c.atoms = atS p) ∧ (r = none → c = Cl.no ∧ e = if bu < 65536 then 3 else 2) := by
  unfold fb_ at h
  rw [if_neg (by simp [hc]), if_neg (by omega)] at h
  rcases h with ⟨h1, h2, h3, h4⟩ | ⟨h1, h2, h3⟩
  · have e := eL_.uniq h4 hr
    subst e
    exact ⟨fun L hL => ⟨h1, Option.some.inj hL, h3⟩, fun h => (by cases h)⟩
  · have e := eL_.uniq h3 hr
    subst e
    exact ⟨fun L hL => (by cases hL), fun _ => ⟨h1, h2⟩⟩
theorem dR_.good {p : List Pc} {at' : List Str} {fs l : List Fc} {e : Int} (h : dR_ p at' fs l e) (hp : bW_ p = 0) (hc : dj_ at' fs = 0) : e = 0 ∧ Srt l ∧ ∀ y, y ∈ l ↔ ed_ p (atS p) (· ∈ fs) y ∧ y ∉ fs := by
  unfold dR_ at h
  rw [if_neg (by simp [hp]), if_neg (by simp [hc])] at h
  exact h
theorem ot_ {p : List Pc} {m : Nat} {L l : List Fc} {e : Int} (hp : bW_ p = 0) (hm : m ≤ 65536) (hA : eL_ p (atS p) m (some L)) (h : dR_ p (atS p) L l e) : l = [] ∧ e = 0 := by
  obtain ⟨h1, _, h3⟩ := h.good hp (oP_ hp hA hm)
  refine ⟨List.eq_nil_iff_forall_not_mem.2 fun y hy => ?_, h1⟩
  have := (h3 y).1 hy
  exact this.2 (lf_ hA this.1)
end Go.Proofs.YtpdbbglpbngeiaaGreatDoor
namespace Go.Proofs.YtpdbbglpbngeiaaGreatDoor
open Go Go.Sx Go.Proofs
attribute [local irreducible] Code.wp wpList wpAnyH
open Go.Vs
theorem gu_ {N : Nat} {fr : Fr} {H : Hp} {Γ : List Fct} {P : Program} {ty t t' : TypeId} {x y : Operand} {m n : Int} (hx : Fr.ev fr x = some (.int .i64 m)) (hy : Fr.ev fr y = some (.int .i64 n)) : Yld P N fr H Γ (.binOp .add t x y t') ty (.int .i64 (IntKind.wrap .i64 (m + n))) :=
  fun a v h1 _ _ _ _ _ => by simp [execOp, h1.ev hx, h1.ev hy, eqGuard, binOp, Op.intArith]
def jn_ (x : Pc) : Int := (x.a.length : Int) + (x.b.length : Int) + (x.c.length : Int) + (x.r.length : Int) + (x.s.length : Int) + (x.t.length : Int)
def gr_ : List Pc → Int
  | [] => 0
  | x :: l => jn_ x + gr_ l
theorem ki_ : ∀ (l : List Pc) (x : Pc), gr_ (l ++ [x]) = gr_ l + jn_ x
  | [], x => by simp [gr_]
  | y :: l, x => by simp only [List.cons_append, gr_, ki_ l x]; omega
theorem oj_ {p : List Pc} {i : Nat} {x : Pc} (h : p[i]? = some x) : gr_ (p.take (i + 1)) = gr_ (p.take i) + jn_ x := by
  rw [List.take_add_one, h, Option.toList_some, ki_]
theorem lM_ : ∀ {l : List Pc}, (∀ x ∈ l, x.big) → 0 ≤ gr_ l ∧ gr_ l ≤ l.length * 844424930107392
  | [], _ => by simp [gr_]
  | x :: l, h => by
    have h1 := lM_ (l := l) fun y hy => h y (by simp [hy])
    obtain ⟨a, b, c, d, e, f⟩ := h x (by simp)
    simp only [gr_, jn_, List.length_cons]
    omega
theorem nv_ : ∀ {l : List Pc} {n : Int}, gr_ l ≤ n → n ≤ 17592186044414 → ∀ x ∈ l, x.sm
  | [], _, _, _, x, hx => by simp at hx
  | y :: l, n, h, hn, x, hx => by
    have h0 : 0 ≤ gr_ l := plen_pos l
    simp only [gr_, jn_] at h
    rcases List.mem_cons.1 hx with rfl | hx
    · exact ⟨by omega, by omega, by omega, by omega, by omega, by omega⟩
    · exact nv_ (l := l) (n := n) (by omega) hn x hx
where plen_pos : ∀ l : List Pc, 0 ≤ gr_ l
  | [] => by simp [gr_]
  | x :: l => by have := plen_pos l; simp only [gr_, jn_]; omega
theorem qQ_ (p : List Pc) (pad : Option Addr) (pcap : Nat) (hp : p.length ≤ 1099511627744) (hbig : ∀ x ∈ p, x.big) : Tri Tryz.prog 16 #[.slice pad (List.length p) pcap] [] [az_ pad (List.flatMap Pc.cells p)] (fun b : {b : Bool // b = true → p.length ≤ 40 ∧ ∀ x ∈ p, x.sm} => .bool b.1) (fun _ => []) (fun _ => []) := by
  refine T_ Tryz.func16 rfl rfl Tryz.ntmps16 rfl fun v0 => ?_
  refine h_ (c_ (a_ (g_ rfl) rfl (e_ (b_ rfl (h_ (c_ (a_ (g_ rfl) rfl (e_ (b_ rfl ?_)))))))))
  refine h_ (h_ (c_ (a_ (f_ rfl) rfl (a_ (ar_ P_ rfl) rfl (a_ (f_ rfl) rfl (e_ (b_ rfl (N_ ?_))))))))
  refine aB_ (ι := {y : Nat × Int // y.1 ≤ List.length p ∧ (List.length p ≤ 40 → y.2 = gr_ (List.take y.1 p))}) (fun y => [(0, .slice pad (List.length p) pcap), (3, .int .i64 y.1.2), (6, .slice pad (List.length p) pcap), (7, .int .i64 (List.length p : Int)), (8, .int .i64 (y.1.1 : Int))]) (fun y => ([])) (fun y => [az_ pad (List.flatMap Pc.cells p)]) (fun y => List.length p - y.1.1) ⟨((0 : Nat), 0), by simp, fun _ => rfl⟩ ⟨rfl, rfl, rfl, rfl, rfl, trivial⟩ J_ (fun _ _ h => h) ?_
  rintro ⟨⟨i, w⟩, hi, hw⟩
  dsimp only at hi hw ⊢
  refine h_ (c_ (y_ (ax_ rfl rfl) rfl fun r1 hr1 => ?_))
  refine e_ (b_ rfl (h_ ?_))
  cases r1
  · skip
    replace hr1 := of_decide_eq_false hr1
    refine v_ rfl (as_ rfl (b_ rfl (h_ (c_ (a_ (f_ rfl) rfl (a_ (ar_ P_ rfl) rfl (y_ (bM_ rfl rfl) rfl fun r2 hr2 => ?_)))))))
    refine a_ (f_ rfl) rfl ?_
    cases r2
    · skip
      replace hr2 := of_decide_eq_false hr2
      refine s_ rfl rfl rfl rfl (s_ rfl rfl rfl rfl (a_ (A_ rfl rfl) rfl (a_ (g_ rfl) rfl (e_ (b_ rfl (H_ ?_))))))
      exact ap_ Tryz.results16 ⟨false, fun h => by cases h⟩ rfl J_ (fun _ _ _ => trivial)
    · skip
      replace hr2 := of_decide_eq_true hr2
      refine r_ rfl rfl (a_ (f_ rfl) rfl (r_ rfl rfl (y_ (bM_ rfl rfl) rfl fun r3 hr3 => ?_)))
      refine a_ (G_ rfl rfl) rfl (a_ (g_ rfl) rfl (e_ (b_ rfl (H_ ?_))))
      exact ap_ Tryz.results16 ⟨r3, fun h => ⟨by omega, by rw [h] at hr3; have hle := of_decide_eq_true hr3; rw [hw (by omega), List.take_of_length_le (by omega)] at hle; exact nv_ hle (by decide)⟩⟩ rfl J_ (fun _ _ _ => trivial)
  · skip
    replace hr1 := of_decide_eq_true hr1
    have hlx1 : i < List.length p := by omega
    obtain ⟨x1, hx1⟩ : ∃ e0, p[i]? = some e0 := ⟨_, List.getElem?_eq_getElem hlx1⟩
    have hmx1 : x1 ∈ p := List.mem_of_getElem? hx1
    obtain ⟨q1, q2, q3, q4, q5, q6⟩ := hbig x1 hmx1
    refine u_ rfl (F_ (b_ rfl (h_ (N_ (h_ (c_ (a_ (ad_ P_ R_ rfl rfl (fun v _ h => av_ (n := 10) Pc.cells_len (by decide) (by exact h.1) hx1) (by omega) (by first | omega | (simp; done))) rfl (a_ (aJ_ (ad := pad) (us := Pc.cells x1) aK_ R_ rfl (fun v _ h => by exact h.1) (Pc.cells_len _) (ag_ Pc.cells_len hx1)) rfl (ay_ bj_ rfl fun b1 => ?_)))))))))
    refine af_ 0 R_ rfl rfl rfl rfl rfl rfl (e_ (b_ rfl (c_ (a_ (f_ rfl) rfl (a_ (l_ m_ rfl rfl rfl j_) rfl (a_ (t_ 0 p_ rfl rfl rfl) rfl (a_ (bP_ S_ rfl) rfl (a_ (l_ m_ rfl rfl rfl j_) rfl (a_ (t_ 0 p_ rfl rfl rfl) rfl ?_)))))))))
    refine a_ (bP_ S_ rfl) rfl (a_ (M_ rfl rfl rfl (aj_ (by omega) (by omega))) rfl (a_ (l_ m_ rfl rfl rfl j_) rfl (a_ (t_ 0 p_ rfl rfl rfl) rfl (a_ (bP_ S_ rfl) rfl (a_ (M_ rfl rfl rfl (aj_ (by omega) (by omega))) rfl (a_ (l_ m_ rfl rfl rfl j_) rfl (a_ (t_ 0 p_ rfl rfl rfl) rfl (a_ (bP_ S_ rfl) rfl (a_ (M_ rfl rfl rfl (aj_ (by omega) (by omega))) rfl ?_)))))))))
    refine a_ (l_ m_ rfl rfl rfl j_) rfl (a_ (t_ 0 p_ rfl rfl rfl) rfl (a_ (bP_ S_ rfl) rfl (a_ (M_ rfl rfl rfl (aj_ (by omega) (by omega))) rfl (a_ (l_ m_ rfl rfl rfl j_) rfl (a_ (t_ 0 p_ rfl rfl rfl) rfl (a_ (bP_ S_ rfl) rfl (a_ (M_ rfl rfl rfl (aj_ (by omega) (by omega))) rfl (a_ (gu_ rfl rfl) rfl (a_ (g_ rfl) rfl ?_)))))))))
    refine e_ (b_ rfl (c_ (a_ (M_ rfl rfl rfl (aj_ (by omega) (by omega))) rfl (a_ (f_ rfl) rfl (e_ (w_ rfl ?_))))))
    exact aa_ ⟨(i + 1, (IntKind.wrap .i64 (w + (((((((Pc.a x1).length : Int) + ((Pc.b x1).length : Int)) + ((Pc.c x1).length : Int)) + ((Pc.r x1).length : Int)) + ((Pc.s x1).length : Int)) + ((Pc.t x1).length : Int))))), hlx1, fun h40 => by rw [oj_ hx1, hw h40]; have hq := lM_ (l := List.take i p) (fun x hx => hbig x (List.mem_of_mem_take hx)); rw [List.length_take] at hq; unfold jn_; exact aj_ (by omega) (by omega)⟩ (by dsimp only; omega) ⟨rfl, rfl, rfl, rfl, rfl, trivial⟩ J_ (fun _ _ h => h)
theorem la_ : atS [] = [[33], [42]] := fi_ eq_ List.lt_trans (lb_ []) (by decide) fun x => by
  rw [gm_, ej_]
  simp [cz_, or_comm]
def P3 : List Pc := [⟨3, [65], [], [66], [114], [], [], 0, 0, 0⟩, ⟨4, [42], [], [67], [114], [], [], 0, 0, 0⟩]
def A3 : List Str := [[33], [42], [65], [66], [67]]
theorem na_ : atS P3 = A3 := fi_ eq_ List.lt_trans (lb_ P3) (by decide) fun x => by
  rw [gm_, ej_]
  simp only [cz_, gQ_, P3, A3, List.flatMap_cons, List.flatMap_nil, List.mem_append, List.mem_cons, List.not_mem_nil, or_false]
  simp
  constructor
  · intro h
    simp only [or_assoc] at h
    rcases h with rfl | rfl | rfl | rfl | rfl | rfl <;> simp
  · rintro (rfl | rfl | rfl | rfl | rfl) <;> simp
theorem nb_ : bW_ P3 = 0 := by decide +kernel
theorem ny_ : bW_ [] = 0 := by decide +kernel
def F0 : List Fc := iu_ [] [[33], [42]] 3
def F3 : List Fc := iu_ P3 A3 4
theorem F0_is (m : Nat) (hm : 3 ≤ m) : eL_ [] [[33], [42]] m (some F0) := mn_ (fun x hx => by simp at hx) 3 m (by decide +kernel) (Nat.le_trans (by decide +kernel) hm)
theorem F0_no : eL_ [] [[33], [42]] 2 none := oK_ (fun x hx => by simp at hx) 3 2 (by decide +kernel)
theorem rs_ : eL_ P3 A3 65536 (some F3) := mn_ (iv_ nb_) 4 65536 (by decide +kernel) (by decide +kernel)
theorem sane1 {c : Cl} {e : Int} (h : fb_ [] 3 c e) : e = 0 ∧ c.atoms = [[33], [42]] ∧ c.facts = F0 := by
  have := (le_ h ny_ (by decide) (by decide) (r := some F0) (by rw [la_]; exact F0_is 3 (by decide))).1 _ rfl
  rw [la_] at this
  exact ⟨this.1, this.2.2, this.2.1⟩
theorem sane2 {c : Cl} {e : Int} (h : fb_ [] 2 c e) : e = 3 ∧ c = Cl.no := by
  have := (le_ h ny_ (by decide) (by decide) (r := none) (by rw [la_]; exact F0_no)).2 rfl
  exact ⟨this.2, this.1⟩
theorem sane3 {c : Cl} {e : Int} (h : fb_ P3 1073741824 c e) : e = 0 ∧ c.atoms = atS P3 ∧ c.facts = F3 := by
  have := (le_ h nb_ (by decide) (by decide) (r := some F3) (by rw [na_]; exact rs_)).1 _ rfl
  exact ⟨this.1, this.2.2, this.2.1⟩
theorem sane4 {at' : List Str} {fs l : List Fc} {e : Int} (ha : at' = atS P3) (hf : fs = F3) (h : dR_ P3 at' fs l e) : l = [] ∧ e = 0 := by
  subst ha; subst hf
  exact ot_ nb_ (Nat.le_refl _) (by rw [na_]; exact rs_) h
theorem F0_len : F0.length = 3 := by decide +kernel
theorem F3_a : qU_ F3 (au_ [65] [114] [66]) = true := by decide +kernel
theorem F3_b : qU_ F3 (ak_ [65] [67]) = true := by decide +kernel
theorem F3_c : qU_ F3 (ak_ [66] [67]) = false := by decide +kernel
theorem lg_ : F3.length ≤ 1000 := by decide +kernel
end Go.Proofs.YtpdbbglpbngeiaaGreatDoor
namespace Go.Proofs.YtpdbbglpbngeiaaGreatDoor
open Go Go.Sx Go.Proofs
attribute [local irreducible] Code.wp wpList wpAnyH
open Go.Vs
set_option maxHeartbeats 1000000 in
theorem pb_ : Tri Tryz.prog 15 #[] [] [hk_] (fun _ : Unit => .bool true) (fun _ => []) (fun _ => []) := by
 refine T_ Tryz.func15 rfl rfl Tryz.ntmps15 rfl fun v0 => ?_
 refine h_ (c_ (a_ (g_ rfl) rfl (e_ (b_ rfl (h_ (c_ (X_ (qh_ ([] : List Pc) none 0 3 (Pc.sm_all (by decide +kernel)) (by decide)) rfl J_ (fun v _ h => by exact ⟨.inl rfl, h.1, trivial⟩) rfl fun ⟨⟨c1, e1⟩, hA1⟩ => ?_)))))))
 dsimp only
 dsimp only at hA1
 obtain ⟨rfl, ha1, hf1⟩ := sane1 hA1
 refine a_ (f_ rfl) rfl (a_ (aA_ rfl rfl) rfl (a_ (aA_ rfl rfl) rfl (ay_ lj_ rfl fun b1 => ?_)))
 refine af_ 0 aI_ rfl rfl rfl rfl rfl rfl (a_ (g_ rfl) rfl (e_ (b_ rfl (h_ (c_ (X_ (qh_ ([] : List Pc) none 0 2 (Pc.sm_all (by decide +kernel)) (by decide)) rfl J_ (fun v _ h => by exact ⟨.inl rfl, h.2.2.1, trivial⟩) rfl fun ⟨⟨c2, e2⟩, hA2⟩ => ?_))))))
 dsimp only
 dsimp only at hA2
 obtain ⟨rfl, hc2⟩ := sane2 hA2
 refine a_ (f_ rfl) rfl (a_ (aA_ rfl rfl) rfl (a_ (aA_ rfl rfl) rfl (ay_ lj_ rfl fun b2 => ?_)))
 refine af_ 0 aI_ rfl rfl rfl rfl rfl rfl (a_ (g_ rfl) rfl (e_ (b_ rfl (h_ (c_ (a_ (aL_ my_ rfl rfl) rfl (a_ (aL_ my_ rfl rfl) rfl (aO_ P_ R_ bj_ rfl rfl rfl rfl rfl rfl fun b3 => ?_))))))))
 refine bE_ (List.flatMap Pc.cells [(Pc.mk 3 [65] [] [66] [114] [] [] 0 0 0), (Pc.mk 4 [42] [] [67] [114] [] [] 0 0 0)]) i_ rfl ?_
 refine a_ (g_ rfl) rfl (e_ (b_ rfl (h_ (c_ (a_ (f_ rfl) rfl (X_ (qh_ [(Pc.mk 3 [65] [] [66] [114] [] [] 0 0 0), (Pc.mk 4 [42] [] [67] [114] [] [] 0 0 0)] (some ⟨b3, 0, none⟩) 2 1073741824 (Pc.sm_all (by decide +kernel)) (by decide)) rfl J_ (fun v _ h => by exact ⟨h.1, h.2.2.2.2.2.1, trivial⟩) rfl fun ⟨⟨c3, e3⟩, hA3⟩ => ?_))))))
 dsimp only
 dsimp only at hA3
 obtain ⟨rfl, ha3, hf3⟩ := sane3 hA3
 refine a_ (f_ rfl) rfl (a_ (aA_ rfl rfl) rfl (a_ (aA_ rfl rfl) rfl (ay_ lj_ rfl fun b4 => ?_)))
 refine af_ 0 aI_ rfl rfl rfl rfl rfl rfl (a_ (g_ rfl) rfl (e_ (b_ rfl (h_ (c_ (a_ (f_ rfl) rfl (a_ (ae_ 0 bI_ aI_ rfl rfl rfl) rfl (X_ (pF_ [(Pc.mk 3 [65] [] [66] [114] [] [] 0 0 0), (Pc.mk 4 [42] [] [67] [114] [] [] 0 0 0)] (some ⟨b3, 0, none⟩) 2 c3 (Pc.sm_all (by decide +kernel)) (by decide) (by rw [ha3, na_]; decide) (by rw [hf3]; have := lg_; omega)) rfl J_ (fun v _ h => by exact ⟨h.2.2.1, h.2.2.2.2.2.2.2.1, h.1, h.2.1, trivial⟩) rfl fun ⟨⟨oad, ocap, nl, ne⟩, hrk, hNx⟩ => ?_))))))))
 dsimp only
 dsimp only at hrk hNx
 obtain ⟨rfl, rfl⟩ := sane4 ha3 hf3 hNx
 refine a_ (f_ rfl) rfl (a_ (aA_ rfl rfl) rfl (a_ (aA_ rfl rfl) rfl (a_ (g_ rfl) rfl (a_ (g_ rfl) rfl (e_ (b_ rfl (h_ ?_)))))))
 have hlx1 : 0 < List.length (Cl.atoms c1) := by rw [ha1]; decide
 obtain ⟨x1, hx1⟩ : ∃ e0, (Cl.atoms c1)[0]? = some e0 := ⟨_, List.getElem?_eq_getElem hlx1⟩
 have hmx1 : x1 ∈ (Cl.atoms c1) := List.mem_of_getElem? hx1
 have hx1e : x1 = [33] := by rw [ha1] at hx1; simpa using hx1.symm
 refine aE_ (by kernel_rfl) ?_
 refine Z_ 46 [0, 1, 2, 3, 4, 5, 6, 7, 8] (by kernel_rfl) (fun _ a b => ⟨a, b⟩) (n_ rfl (f_ rfl) rfl (n_ rfl (bm_ (aD_ rfl rfl) (show _ = Value.bool true from congrArg Value.bool (by decide))) rfl (n_ rfl (f_ rfl) rfl (W_ rfl rfl rfl (l_ aw_ rfl rfl rfl bR_) rfl (W_ rfl rfl rfl (t_ 2 cI_ rfl rfl rfl) rfl (W_ rfl rfl rfl (ar_ D_ rfl) rfl ?_))))))
 refine bQ_ rfl rfl rfl (aD_ rfl rfl) rfl fun r1 hr1 => ?_
 refine n_ rfl (G_ rfl rfl) rfl (n_ rfl (f_ rfl) rfl (Y_ ?_))
 cases r1
 ·
  replace hr1 := ne_of_beq_false hr1
  exact absurd (by rw [ha1]; rfl) hr1
 ·
  replace hr1 := eq_of_beq hr1
  refine Z_ 39 [9, 10, 11, 12, 13, 14, 15] (by kernel_rfl) (fun _ a b => ⟨a, b⟩) (W_ rfl rfl rfl (l_ aw_ rfl rfl rfl bR_) rfl (W_ rfl rfl rfl (t_ 2 cI_ rfl rfl rfl) rfl (W_ rfl rfl rfl (ad_ D_ j_ rfl rfl (fun v _ h => av_ (n := 1) am_ (by decide) (by exact h.2.2.2.2.2.2.1) hx1) (by omega) (by first | omega | (simp; done))) rfl (W_ rfl rfl rfl (aG_ (ad := (Cl.aad c1)) p_ rfl (fun v _ h => by exact h.2.2.2.2.2.2.1) (ag_ am_ hx1 0 _ rfl)) rfl ?_))))
  refine bQ_ rfl rfl rfl (ao_ rfl rfl) rfl fun r2 hr2 => ?_
  refine n_ rfl (G_ rfl rfl) rfl (n_ rfl (f_ rfl) rfl (Y_ ?_))
  cases r2
  ·
   replace hr2 := ne_of_beq_false hr2
   exact absurd hx1e hr2
  ·
   replace hr2 := eq_of_beq hr2
   refine Z_ 33 [16, 17, 18, 19, 20, 21] (by kernel_rfl) (fun _ a b => ⟨a, b⟩) (W_ rfl rfl rfl (l_ aw_ rfl rfl rfl bJ_) rfl (W_ rfl rfl rfl (t_ 2 bx_ rfl rfl rfl) rfl (W_ rfl rfl rfl (ar_ E_ rfl) rfl ?_)))
   refine bQ_ rfl rfl rfl (aD_ rfl rfl) rfl fun r3 hr3 => ?_
   refine n_ rfl (G_ rfl rfl) rfl (n_ rfl (f_ rfl) rfl (Y_ ?_))
   cases r3
   ·
    replace hr3 := ne_of_beq_false hr3
    exact absurd (by rw [hf1, F0_len]; rfl) hr3
   ·
    replace hr3 := eq_of_beq hr3
    refine Z_ 24 [22, 23, 24, 25, 26, 27, 28, 29, 30] (by kernel_rfl) (fun _ a b => ⟨a, b⟩) (W_ rfl rfl rfl (f_ rfl) rfl (W_ rfl rfl rfl (bm_ (aD_ rfl rfl) (show _ = Value.bool true from congrArg Value.bool (by decide))) rfl (n_ rfl (G_ rfl rfl) rfl (n_ rfl (f_ rfl) rfl (W_ rfl rfl rfl (f_ rfl) rfl (W_ rfl rfl rfl (bm_ (aD_ rfl rfl) (show _ = Value.bool true from congrArg Value.bool (by decide))) rfl (n_ rfl (G_ rfl rfl) rfl (n_ rfl (f_ rfl) rfl (W_ rfl rfl rfl (ae_ 0 bI_ aI_ rfl rfl rfl) rfl ?_)))))))))
    refine Y_ (U_ 31 rfl (by kernel_rfl) (r_ rfl rfl (X_ (er_ [65] [114] [66]) rfl J_ (fun _ _ _ => by exact trivial) rfl fun _ => ?_)))
    refine e_ (w_ rfl (O_ (fun _ a b => ⟨a, b⟩) (U_ 32 rfl (by kernel_rfl) (r_ rfl rfl (at_ (pY_ c3 (au_ [65] [114] [66]) (by rw [hf3]; have := lg_; omega)) rfl J_ (fun v _ h => by exact ⟨h.2.2.1, trivial⟩) rfl fun r4 hr4 => ?_)))))
    refine e_ (w_ rfl (O_ (fun _ a b => ⟨a, b⟩) (Z_ 20 [33, 34] (by kernel_rfl) (fun _ a b => ⟨a, b⟩) (n_ rfl (G_ rfl rfl) rfl (n_ rfl (f_ rfl) rfl (Y_ ?_))))))
    cases r4
    ·
     rw [hf3, F3_a] at hr4; cases hr4
    ·
     refine Z_ 19 [35] (by kernel_rfl) (fun _ a b => ⟨a, b⟩) (W_ rfl rfl rfl (ae_ 0 bI_ aI_ rfl rfl rfl) rfl (Y_ (U_ 36 rfl (by kernel_rfl) (r_ rfl rfl (X_ (dH_ [65] [67]) rfl J_ (fun _ _ _ => by exact trivial) rfl fun _ => ?_)))))
     refine e_ (w_ rfl (O_ (fun _ a b => ⟨a, b⟩) (U_ 37 rfl (by kernel_rfl) (r_ rfl rfl (at_ (pY_ c3 (ak_ [65] [67]) (by rw [hf3]; have := lg_; omega)) rfl J_ (fun v _ h => by exact ⟨h.2.2.1, trivial⟩) rfl fun r5 hr5 => ?_)))))
     refine e_ (w_ rfl (O_ (fun _ a b => ⟨a, b⟩) (Z_ 15 [38, 39] (by kernel_rfl) (fun _ a b => ⟨a, b⟩) (n_ rfl (G_ rfl rfl) rfl (n_ rfl (f_ rfl) rfl (Y_ ?_))))))
     cases r5
     ·
      rw [hf3, F3_b] at hr5; cases hr5
     ·
      refine Z_ 14 [40] (by kernel_rfl) (fun _ a b => ⟨a, b⟩) (W_ rfl rfl rfl (ae_ 0 bI_ aI_ rfl rfl rfl) rfl (Y_ (U_ 41 rfl (by kernel_rfl) (r_ rfl rfl (X_ (dH_ [66] [67]) rfl J_ (fun _ _ _ => by exact trivial) rfl fun _ => ?_)))))
      refine e_ (w_ rfl (O_ (fun _ a b => ⟨a, b⟩) (U_ 42 rfl (by kernel_rfl) (r_ rfl rfl (at_ (pY_ c3 (ak_ [66] [67]) (by rw [hf3]; have := lg_; omega)) rfl J_ (fun v _ h => by exact ⟨h.2.2.1, trivial⟩) rfl fun r6 hr6 => ?_)))))
      refine e_ (w_ rfl (O_ (fun _ a b => ⟨a, b⟩) (Z_ 9 [43, 44, 45] (by kernel_rfl) (fun _ a b => ⟨a, b⟩) (W_ rfl rfl rfl (bN_ rfl) rfl (n_ rfl (G_ rfl rfl) rfl (n_ rfl (f_ rfl) rfl (Y_ ?_)))))))
      cases r6
      ·
       refine Z_ 0 [46, 47, 48, 49, 50, 51, 52, 53, 54] (by kernel_rfl) (fun _ a b => ⟨a, b⟩) (W_ rfl rfl rfl (f_ rfl) rfl (W_ rfl rfl rfl (bm_ (aD_ rfl rfl) (show _ = Value.bool true from congrArg Value.bool (by decide))) rfl (n_ rfl (G_ rfl rfl) rfl (n_ rfl (f_ rfl) rfl (W_ rfl rfl rfl (f_ rfl) rfl (W_ rfl rfl rfl (ar_ E_ rfl) rfl (W_ rfl rfl rfl (bm_ (aD_ rfl rfl) (show _ = Value.bool true from congrArg Value.bool (by decide))) rfl (n_ rfl (G_ rfl rfl) rfl (n_ rfl (g_ rfl) rfl ?_)))))))))
       refine Y_ (ab_ (by kernel_rfl) (b_ rfl (H_ ?_)))
       exact ap_ Tryz.results15 () rfl J_ (fun _ _ _ => trivial)
      ·
       rw [hf3, F3_c] at hr6; cases hr6
end Go.Proofs.YtpdbbglpbngeiaaGreatDoor
namespace Go.Proofs.YtpdbbglpbngeiaaGreatDoor
open Go Go.Sx Go.Proofs
attribute [local irreducible] Code.wp wpList wpAnyH
open Go.Vs
theorem qP_ (l : List Fc) (f : Fc) : (eS_ l f).length ≤ l.length + 1 := by
  unfold eS_
  split
  · omega
  · rw [List.length_append, List.length_cons, List.length_take, List.length_drop]; omega
theorem pE_ {p : List Pc} {at' : List Str} {fs l : List Fc} {e : Int} (hp : p.length ≤ 100) (hck : bW_ p = 0) (hc : dj_ at' fs = 0) (hl : fs.length ≤ 1000) (h : dR_ p at' fs l e) : l.length ≤ 20000000000 := by
  obtain ⟨_, h2, h3⟩ := h.good hck hc
  have hF : ∀ y ∈ fs, y.form := fun y hy => gM_ ((hi_ hc).1.ok y hy)
  have h1 := fm_ h2.nodup (m := cN_ p (atS p) ++ fs.flatMap (fun f => cc_ p fs f)) fun y hy => (gF_ hF y).2 ((h3 y).1 hy).1
  have h4 : (fs.flatMap (fun f => cc_ p fs f)).length ≤ fs.length * 14000000 := cW_ fs fun x _ => fE_ hp (by omega)
  have h5 : (cN_ p (atS p)).length ≤ (atS p).length * 102 := cW_ (atS p) fun x _ => by
    simp only [List.length_cons, List.length_map]
    have := List.length_filter_le (fun x : Pc => decide (x.kind = 7)) p
    omega
  have h6 := hj_ p
  rw [List.length_append] at h1
  omega
end Go.Proofs.YtpdbbglpbngeiaaGreatDoor
namespace Go.Proofs.YtpdbbglpbngeiaaGreatDoor
open Go Go.Sx Go.Proofs
attribute [local irreducible] Code.wp wpList wpAnyH
open Go.Vs
def jQ_ (p q : List Pc) : Prop := ∀ x ∈ p, ∃ y ∈ q, ∃ n, { y with frm := n } = x
theorem jQ_.of {p q : List Pc} (h : ∀ x ∈ p, x ∈ q) : jQ_ p q := fun x hx => ⟨x, h x hx, x.frm, rfl⟩
theorem jQ_.at' {p q : List Pc} (h : jQ_ p q) : ∀ s ∈ atS p, s ∈ atS q := fun s hs => by
  rw [gm_, ej_] at hs ⊢
  rcases hs with h1 | h1
  · obtain ⟨x, hx, h2⟩ := List.mem_flatMap.1 h1
    obtain ⟨y, hy, n, e⟩ := h x hx
    subst e
    exact .inl (List.mem_flatMap.2 ⟨y, hy, h2⟩)
  · exact .inr h1
theorem jQ_.der {p q : List Pc} (h : jQ_ p q) {y : Fc} (hy : Der p (atS p) y) : Der q (atS q) y := hy.mono h h.at'
def Pc.nf (x : Pc) : Pc := ⟨x.kind, x.a, x.b, x.c, x.r, x.s, x.t, x.lo, x.hi, -1⟩
theorem jQ_.trans {p q r : List Pc} (h : jQ_ p q) (k : jQ_ q r) : jQ_ p r := fun x hx => by
  obtain ⟨y, hy, n, rfl⟩ := h x hx
  obtain ⟨z, hz, m, rfl⟩ := k y hy
  exact ⟨z, hz, n, rfl⟩
end Go.Proofs.YtpdbbglpbngeiaaGreatDoor
namespace Go.Proofs.YtpdbbglpbngeiaaGreatDoor
open Go Go.Sx Go.Proofs
attribute [local irreducible] Code.wp wpList wpAnyH
open Go.Vs
theorem bi_ {α β : Type} {g : α → List β} {l : List α} {i : Nat} {x : α} (h : l[i]? = some x) : List.flatMap g (List.take (i + 1) l) = List.flatMap g (List.take i l) ++ g x := by
  rw [List.take_add_one, h, Option.toList_some, List.flatMap_append]; simp
def eI_ (a : Str) (x : Pc) : List Fc := if x.kind = 7 then [au_ a x.r a] else []
def dQ_ (p : List Pc) (a : Str) : List Fc := [ak_ a a, ak_ a [42]] ++ List.flatMap (eI_ a) p
theorem kw_ (p : List Pc) (A : List Str) : cN_ p A = List.flatMap (dQ_ p) A := by
  unfold cN_
  congr 1
  funext a
  unfold dQ_
  simp only [List.cons_append, List.nil_append, List.cons.injEq, true_and]
  induction p with
  | nil => rfl
  | cons x p ih =>
    rw [List.filter_cons, List.flatMap_cons, ← ih, eI_]
    by_cases h : x.kind = 7
    · rw [if_pos (by simpa using h), if_pos h]; rfl
    · rw [if_neg (by simpa using h), if_neg h]; rfl
theorem kp_ (a : Str) (x : Pc) : (eI_ a x).length ≤ 1 := by unfold eI_; split <;> simp
theorem jC_ {p : List Pc} (hp : p.length ≤ 100) (a : Str) : (dQ_ p a).length ≤ 102 := by
  have := cW_ (g := eI_ a) (n := 1) p fun x _ => kp_ a x
  unfold dQ_
  rw [List.length_append]; simp only [List.length_cons, List.length_nil]; omega
def cr_ (l : List Fc) (f : Fc) (x : Pc) : List Fc :=
  if x.kind = 1 ∧ x.a = f.b then [ak_ f.a x.c]
  else if x.kind = 2 ∧ (x.a = f.b ∧ ak_ f.a x.b ∈ l ∨ x.b = f.b ∧ ak_ f.a x.a ∈ l) then [ak_ f.a x.c]
  else if x.kind = 3 ∧ x.a = f.b then [au_ f.a x.r x.c]
  else if x.kind = 8 ∧ x.a = f.b then [aF_ f.a x.r x.lo x.hi]
  else []
def cD_ (f y : Fc) (x : Pc) : List Fc := if x.kind = 4 ∧ x.r = y.r ∧ x.a = f.b then [ak_ y.a x.c] else []
theorem iK_ (p : List Pc) (f y : Fc) : subB p f y = if y.kind ≠ 2 ∨ y.b ≠ f.a then [] else (if f.b = [33] then [ak_ y.a [33]] else []) ++ List.flatMap (cD_ f y) p := rfl
theorem ka_ (l : List Fc) (f : Fc) (x : Pc) : (cr_ l f x).length ≤ 1 := by unfold cr_; (repeat' split) <;> simp
theorem id_ (f y : Fc) (x : Pc) : (cD_ f y x).length ≤ 1 := by unfold cD_; split <;> simp
theorem oY_ {p : List Pc} (hp : p.length ≤ 100) (f y : Fc) : (subB p f y).length ≤ 101 := by
  have := cW_ (g := cD_ f y) (n := 1) p fun x _ => id_ f y x
  rw [iK_]
  split
  · simp
  · rw [List.length_append]; split <;> simp only [List.length_cons, List.length_nil] <;> omega
theorem im_ (x : Pc) (f y : Fc) : (bT_ x f y).length ≤ 2 := by unfold bT_; (repeat' split) <;> simp
theorem kq_ {l : List Fc} (hl : l.length ≤ 65536) (f : Fc) (x : Pc) : (bD_ l f x).length ≤ 131072 := by
  unfold bD_
  split
  · simp
  · split
    · simp
    · split
      · have := cW_ (g := bT_ x f) (n := 2) l fun y _ => im_ x f y
        omega
      · simp
theorem jj_ (f y : Fc) : (cn_ f y).length ≤ 1 := by unfold cn_; (repeat' split) <;> simp
theorem mF_ (f : Fc) (x : Pc) : (cS_ f x).length ≤ 1 := by unfold cS_; split <;> simp
theorem pl_ (p : List Pc) (pad : Option Addr) (pcap : Nat) (A : List Str) (aad : Option Addr) (acap : Nat) (hp : p.length ≤ 100) (hA : A.length ≤ 1000) : Tri Tryz.prog 64 #[.slice pad (List.length p) pcap, .slice aad (List.length A) acap] [] [az_ pad (List.flatMap Pc.cells p), az_ aad (List.flatMap aH_ A)] (fun y : {y : Value × Hp // aQ_ 41 6 y.1 (List.length (cN_ p A)) (List.flatMap Fc.cells (cN_ p A)) y.2} => y.1.1) (fun y => y.1.2) (fun _ => []) := by
 refine T_ Tryz.func64 rfl rfl Tryz.ntmps64 rfl fun v0 => ?_
 refine h_ (c_ (a_ (g_ rfl) rfl (e_ (b_ rfl (h_ (c_ (dk_ E_ B_ rfl fun b1 => ?_)))))))
 refine al_ i_ (a_ (g_ rfl) rfl (e_ (b_ rfl (h_ (h_ (c_ (a_ (g_ rfl) rfl (e_ (b_ rfl ?_)))))))))
 refine N_ ?_
 refine aB_ (ι := {y : Nat × Value × Hp // y.1 ≤ List.length A ∧ aQ_ 41 6 y.2.1 (List.length (List.flatMap (dQ_ p) (List.take y.1 A))) (List.flatMap Fc.cells (List.flatMap (dQ_ p) (List.take y.1 A))) y.2.2}) (fun y => [(0, .slice pad (List.length p) pcap), (1, .slice aad (List.length A) acap), (4, .slice none 0 0), (5, y.1.2.1), (6, .int .i64 (y.1.1 : Int))]) (fun y => (y.1.2.2)) (fun y => [az_ pad (List.flatMap Pc.cells p), az_ aad (List.flatMap aH_ A)]) (fun y => List.length A - y.1.1) ⟨((0 : Nat), (.slice (some ⟨b1, 0, none⟩) 0 0), [(b1, .cells #[] 41 (0, 0))]), by simp, (dX_ b1 41 6)⟩ ⟨rfl, rfl, rfl, rfl, rfl, trivial⟩ aC_ (fun _ _ h => h) ?_
 rintro ⟨⟨i, sv_Rfc, H_Rfc⟩, hi_i, hr_Rfc⟩
 dsimp only at hi_i hr_Rfc ⊢
 have hb1 := cW_ (g := dQ_ p) (n := 102) (List.take i A) (fun x _ => jC_ hp x)
 rw [List.length_take] at hb1
 refine h_ (h_ (c_ (a_ (f_ rfl) rfl (a_ (f_ rfl) rfl (a_ (ar_ D_ rfl) rfl (y_ (ax_ rfl rfl) rfl fun r1 hr1 => ?_))))))
 refine e_ (b_ rfl ?_)
 cases r1
 ·
  replace hr1 := of_decide_eq_false hr1
  rw [show List.take i A = A from List.take_of_length_le (by omega)] at hr_Rfc
  refine v_ rfl (as_ rfl (b_ rfl (h_ (c_ (a_ (f_ rfl) rfl (a_ (g_ rfl) rfl (e_ (b_ rfl (H_ ?_)))))))))
  exact ap_ Tryz.results64 ⟨(sv_Rfc, H_Rfc), (kw_ p A) ▸ hr_Rfc⟩ rfl aC_ (fun _ _ _ => trivial)
 ·
  replace hr1 := of_decide_eq_true hr1
  have hlx1 : i < List.length A := by omega
  obtain ⟨x1, hx1⟩ : ∃ e0, A[i]? = some e0 := ⟨_, List.getElem?_eq_getElem hlx1⟩
  have hmx1 : x1 ∈ A := List.mem_of_getElem? hx1
  refine u_ rfl (F_ (b_ rfl (h_ (N_ (h_ ?_)))))
  refine aP_ ([]) (by kernel_rfl) ?_
  refine Z_ 5 [0, 1, 2, 3, 4, 5, 6, 7, 8, 10, 11, 12, 13] (by kernel_rfl) (fun _ a b => ⟨by_ a, b⟩) (n_ rfl (f_ rfl) rfl (n_ rfl (f_ rfl) rfl (n_ rfl (f_ rfl) rfl (n_ rfl (ad_ D_ j_ rfl rfl (fun v _ h => av_ (n := 1) am_ (by decide) (by exact h.2.1) hx1) (by omega) (by first | omega | (simp; done))) rfl (n_ rfl (aG_ (ad := aad) p_ rfl (fun v _ h => by exact h.2.1) (ag_ am_ hx1 0 _ rfl)) rfl (n_ rfl (f_ rfl) rfl (n_ rfl (f_ rfl) rfl (n_ rfl (ad_ D_ j_ rfl rfl (fun v _ h => av_ (n := 1) am_ (by decide) (by exact h.2.1) hx1) (by omega) (by first | omega | (simp; done))) rfl (n_ rfl (aG_ (ad := aad) p_ rfl (fun v _ h => by exact h.2.1) (ag_ am_ hx1 0 _ rfl)) rfl ?_)))))))))
  refine n_ rfl (f_ rfl) rfl (n_ rfl (f_ rfl) rfl (n_ rfl (ad_ D_ j_ rfl rfl (fun v _ h => av_ (n := 1) am_ (by decide) (by exact h.2.1) hx1) (by omega) (by first | omega | (simp; done))) rfl (n_ rfl (aG_ (ad := aad) p_ rfl (fun v _ h => by exact h.2.1) (ag_ am_ hx1 0 _ rfl)) rfl (Y_ (U_ 9 rfl (by kernel_rfl) (X_ (dH_ x1 x1) rfl J_ (fun _ _ _ => by exact trivial) rfl fun _ => ?_))))))
  refine al_ iz_ (e_ (w_ rfl (O_ (fun _ a b => ⟨by_ a, b⟩) (U_ 14 rfl (by kernel_rfl) (X_ (dH_ x1 [42]) rfl J_ (fun _ _ _ => by exact trivial) rfl fun _ => ?_)))))
  refine al_ iz_ (e_ (w_ rfl (O_ (fun _ a b => ⟨by_ a, b⟩) (U_ 15 rfl (by kernel_rfl) (aO_ E_ B_ ah_ rfl rfl rfl rfl rfl rfl fun b2 => ?_)))))
  refine bE_ (List.flatMap Fc.cells [(ak_ x1 x1), (ak_ x1 [42])]) i_ rfl ?_
  refine e_ (w_ rfl (O_ (fun _ a b => ⟨by_ a, b.2⟩) (U_ 16 rfl (by kernel_rfl) (aM_ (news := List.flatMap Fc.cells [(ak_ x1 x1), (ak_ x1 [42])]) cg_ hr_Rfc rfl rfl (fun q => by cases q) (by simp) aC_ (by rw [bt_ Fc.cells 6 Fc.cells_len]; rfl) (fun v _ h => by exact h.1) (fun u hu => aR_ Fc.cells_one hu) (by simp only [maxLen]; ((try simp only [List.length_append, List.length_cons, List.length_nil]); omega)) (by ((try simp only [List.length_append, List.length_cons, List.length_nil]); omega)) rfl fun sv1 Hr1 hr1 => ?_))))
  refine al_ List.perm_append_comm ?_
  have hq1 : aQ_ 41 6 sv1 (List.length ((List.flatMap (dQ_ p) (List.take i A)) ++ [(ak_ x1 x1), (ak_ x1 [42])])) (List.flatMap Fc.cells ((List.flatMap (dQ_ p) (List.take i A)) ++ [(ak_ x1 x1), (ak_ x1 [42])])) Hr1 := by rw [List.length_append, List.flatMap_append]; exact hr1
  refine e_ (w_ rfl (O_ (fun _ a b => ⟨by_ a, b.2⟩) (Z_ 0 [17] (by kernel_rfl) (fun _ a b => ⟨by_ a, b.2⟩) (n_ rfl (g_ rfl) rfl (Y_ (ab_ (by kernel_rfl) (b_ rfl (h_ (c_ ?_)))))))))
  refine a_ (g_ rfl) rfl (e_ (b_ rfl (N_ ?_)))
  have hw2 : aQ_ 41 6 sv1 (List.length (((List.flatMap (dQ_ p) (List.take i A)) ++ [(ak_ x1 x1), (ak_ x1 [42])]) ++ List.flatMap (eI_ x1) (List.take 0 p))) (List.flatMap Fc.cells (((List.flatMap (dQ_ p) (List.take i A)) ++ [(ak_ x1 x1), (ak_ x1 [42])]) ++ List.flatMap (eI_ x1) (List.take 0 p))) Hr1 := by have q := hq1; simpa only [List.take_zero, List.flatMap_nil, List.append_nil] using q
  refine aB_ (ι := {y : Nat × Value × Hp // y.1 ≤ List.length p ∧ aQ_ 41 6 y.2.1 (List.length (((List.flatMap (dQ_ p) (List.take i A)) ++ [(ak_ x1 x1), (ak_ x1 [42])]) ++ List.flatMap (eI_ x1) (List.take y.1 p))) (List.flatMap Fc.cells (((List.flatMap (dQ_ p) (List.take i A)) ++ [(ak_ x1 x1), (ak_ x1 [42])]) ++ List.flatMap (eI_ x1) (List.take y.1 p))) y.2.2}) (fun y => [(0, .slice pad (List.length p) pcap), (1, .slice aad (List.length A) acap), (4, .slice none 0 0), (5, y.1.2.1), (6, .int .i64 (i : Int)), (7, .int .i64 (y.1.1 : Int))]) (fun y => (y.1.2.2)) (fun y => [az_ (some ⟨b2, 0, none⟩) (List.flatMap Fc.cells [(ak_ x1 x1), (ak_ x1 [42])]), az_ pad (List.flatMap Pc.cells p), az_ aad (List.flatMap aH_ A)]) (fun y => List.length p - y.1.1) ⟨((0 : Nat), sv1, Hr1), by simp, hw2⟩ ⟨rfl, rfl, rfl, rfl, rfl, rfl, trivial⟩ aC_ (fun _ _ h => h) ?_
  rintro ⟨⟨k, sv_Rfc, H_Rfc⟩, hi_k, hr_Rfc⟩
  dsimp only at hi_k hr_Rfc ⊢
  have hb2 := cW_ (g := eI_ x1) (n := 1) (List.take k p) (fun x _ => kp_ x1 x)
  rw [List.length_take] at hb2
  refine h_ (h_ (c_ (a_ (f_ rfl) rfl (a_ (f_ rfl) rfl (a_ (ar_ P_ rfl) rfl (y_ (ax_ rfl rfl) rfl fun r2 hr2 => ?_))))))
  refine e_ (b_ rfl ?_)
  cases r2
  ·
   replace hr2 := of_decide_eq_false hr2
   rw [show List.take k p = p from List.take_of_length_le (by omega)] at hr_Rfc
   refine v_ rfl (as_ rfl (b_ rfl (c_ (a_ (f_ rfl) rfl (a_ (M_ rfl rfl rfl (aj_ (by omega) (by omega))) rfl (a_ (g_ rfl) rfl (e_ (w_ rfl ?_))))))))
   exact aa_ ⟨(i + 1, sv_Rfc, H_Rfc), hlx1, (by have q := hr_Rfc; rw [bi_ hx1, show (dQ_ p) x1 = [(ak_ x1 x1), (ak_ x1 [42])] ++ List.flatMap (eI_ x1) p from (by rfl)]; simpa only [List.append_assoc, List.append_nil] using q)⟩ (by dsimp only; omega) ⟨rfl, rfl, rfl, rfl, rfl, trivial⟩ aC_ (fun _ _ h => h.2)
  ·
   replace hr2 := of_decide_eq_true hr2
   have hlx2 : k < List.length p := by omega
   obtain ⟨x2, hx2⟩ : ∃ e0, p[k]? = some e0 := ⟨_, List.getElem?_eq_getElem hlx2⟩
   have hmx2 : x2 ∈ p := List.mem_of_getElem? hx2
   refine u_ rfl (F_ (b_ rfl (h_ (N_ (h_ (c_ (a_ (f_ rfl) rfl (a_ (f_ rfl) rfl (a_ (ad_ P_ R_ rfl rfl (fun v _ h => av_ (n := 10) Pc.cells_len (by decide) (by exact h.2.1) hx2) (by omega) (by first | omega | (simp; done))) rfl ?_)))))))))
   refine a_ (bY_ m_ rfl rfl rfl I_) rfl (a_ (aG_ (ad := pad) L_ rfl (fun v _ h => by exact h.2.1) (ag_ Pc.cells_len hx2 0 _ rfl)) rfl (y_ (aD_ rfl rfl) rfl fun r3 hr3 => ?_))
   refine e_ (b_ rfl ?_)
   cases r3
   ·
    replace hr3 := ne_of_beq_false hr3
    refine v_ rfl (F_ (b_ rfl (c_ (a_ (f_ rfl) rfl (a_ (M_ rfl rfl rfl (aj_ (by omega) (by omega))) rfl (a_ (g_ rfl) rfl (e_ (w_ rfl ?_))))))))
    exact aa_ ⟨(k + 1, sv_Rfc, H_Rfc), hlx2, (by have q := hr_Rfc; rw [bi_ hx2, show (eI_ x1) x2 = [] from (by unfold eI_; rw [if_neg (by first | assumption | simpa using hr3 | simp [*])])]; simpa only [List.append_assoc, List.append_nil] using q)⟩ (by dsimp only; omega) ⟨rfl, rfl, rfl, rfl, rfl, rfl, trivial⟩ aC_ (fun _ _ h => h)
   ·
    replace hr3 := eq_of_beq hr3
    refine u_ rfl ?_
    refine aP_ ([]) (by kernel_rfl) ?_
    refine Z_ 4 [0, 1, 2, 3, 4, 5, 6, 7, 8, 9, 10, 11, 12, 13] (by kernel_rfl) (fun _ a b => ⟨by_ a, b⟩) (n_ rfl (f_ rfl) rfl (n_ rfl (f_ rfl) rfl (n_ rfl (f_ rfl) rfl (n_ rfl (ad_ D_ j_ rfl rfl (fun v _ h => av_ (n := 1) am_ (by decide) (by exact h.2.2.1) hx1) (by omega) (by first | omega | (simp; done))) rfl (n_ rfl (aG_ (ad := aad) p_ rfl (fun v _ h => by exact h.2.2.1) (ag_ am_ hx1 0 _ rfl)) rfl (n_ rfl (f_ rfl) rfl (n_ rfl (f_ rfl) rfl (n_ rfl (ad_ P_ R_ rfl rfl (fun v _ h => av_ (n := 10) Pc.cells_len (by decide) (by exact h.2.1) hx2) (by omega) (by first | omega | (simp; done))) rfl (n_ rfl (bY_ m_ rfl rfl rfl j_) rfl ?_)))))))))
    refine n_ rfl (aG_ (ad := pad) p_ rfl (fun v _ h => by exact h.2.1) (ag_ Pc.cells_len hx2 4 _ rfl)) rfl (n_ rfl (f_ rfl) rfl (n_ rfl (f_ rfl) rfl (n_ rfl (ad_ D_ j_ rfl rfl (fun v _ h => av_ (n := 1) am_ (by decide) (by exact h.2.2.1) hx1) (by omega) (by first | omega | (simp; done))) rfl (n_ rfl (aG_ (ad := aad) p_ rfl (fun v _ h => by exact h.2.2.1) (ag_ am_ hx1 0 _ rfl)) rfl (Y_ (U_ 14 rfl (by kernel_rfl) (X_ (er_ x1 (Pc.r x2) x1) rfl J_ (fun _ _ _ => by exact trivial) rfl fun _ => ?_)))))))
    refine al_ iz_ (e_ (w_ rfl (O_ (fun _ a b => ⟨by_ a, b⟩) (U_ 15 rfl (by kernel_rfl) (aO_ E_ B_ ah_ rfl rfl rfl rfl rfl rfl fun b3 => ?_)))))
    refine bE_ (List.flatMap Fc.cells [(au_ x1 (Pc.r x2) x1)]) i_ rfl ?_
    refine e_ (w_ rfl (O_ (fun _ a b => ⟨by_ a, b.2⟩) (U_ 16 rfl (by kernel_rfl) (aM_ (news := List.flatMap Fc.cells [(au_ x1 (Pc.r x2) x1)]) cg_ hr_Rfc rfl rfl (fun q => by cases q) (by simp) aC_ (by rw [bt_ Fc.cells 6 Fc.cells_len]; rfl) (fun v _ h => by exact h.1) (fun u hu => aR_ Fc.cells_one hu) (by simp only [maxLen]; ((try simp only [List.length_append, List.length_cons, List.length_nil]); omega)) (by ((try simp only [List.length_append, List.length_cons, List.length_nil]); omega)) rfl fun sv3 Hr3 hr3 => ?_))))
    refine al_ List.perm_append_comm ?_
    have hq3 : aQ_ 41 6 sv3 (List.length ((((List.flatMap (dQ_ p) (List.take i A)) ++ [(ak_ x1 x1), (ak_ x1 [42])]) ++ List.flatMap (eI_ x1) (List.take k p)) ++ [(au_ x1 (Pc.r x2) x1)])) (List.flatMap Fc.cells ((((List.flatMap (dQ_ p) (List.take i A)) ++ [(ak_ x1 x1), (ak_ x1 [42])]) ++ List.flatMap (eI_ x1) (List.take k p)) ++ [(au_ x1 (Pc.r x2) x1)])) Hr3 := by rw [List.length_append, List.flatMap_append]; exact hr3
    refine e_ (w_ rfl (O_ (fun _ a b => ⟨by_ a, b.2⟩) (Z_ 0 [17] (by kernel_rfl) (fun _ a b => ⟨by_ a, b.2⟩) (n_ rfl (g_ rfl) rfl (Y_ (ab_ (by kernel_rfl) (b_ rfl (c_ (a_ (f_ rfl) rfl ?_)))))))))
    refine a_ (M_ rfl rfl rfl (aj_ (by omega) (by omega))) rfl (a_ (g_ rfl) rfl (e_ (w_ rfl ?_)))
    exact aa_ ⟨(k + 1, sv3, Hr3), hlx2, (by have q := hq3; rw [bi_ hx2, show (eI_ x1) x2 = [(au_ x1 (Pc.r x2) x1)] from (by unfold eI_; rw [if_pos (by first | assumption | simpa using hr3 | simp [*])])]; simpa only [List.append_assoc, List.append_nil] using q)⟩ (by dsimp only; omega) ⟨rfl, rfl, rfl, rfl, rfl, rfl, trivial⟩ aC_ (fun _ _ h => h.2)
end Go.Proofs.YtpdbbglpbngeiaaGreatDoor
