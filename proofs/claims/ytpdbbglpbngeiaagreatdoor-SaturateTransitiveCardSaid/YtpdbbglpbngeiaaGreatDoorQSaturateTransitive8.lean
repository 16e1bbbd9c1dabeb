/-
  Part of the proof of the law SaturateTransitive over this seat: the small logic, the data, the contracts of functions (no condition).
-/
import Derived.Test.YtpdbbglpbngeiaaGreatDoorQSaturateTransitive7
import Derived.Test.YtpdbbglpbngeiaaGreatDoorQSaturateTransitive2
set_option linter.unusedVariables false
set_option linter.unusedSimpArgs false
set_option linter.unusedSectionVars false
namespace Go.Proofs.YtpdbbglpbngeiaaGreatDoor
open Go Go.Sx Go.Proofs
set_option linter.unusedVariables false
attribute [local irreducible] Code.wp wpList wpAnyH
open Go.Vs
theorem factOk_form {A : List Str} {f : Fc} (h : factOk A f = true) : f.form := by
  unfold factOk at h
  simp only [Bool.and_eq_true, decide_eq_true_eq] at h
  obtain ⟨_, h⟩ := h
  split at h
  · simp only [Bool.and_eq_true, decide_eq_true_eq, isSubB] at h
    exact .inl ⟨_, _, h.2⟩
  · split at h
    · simp only [Bool.and_eq_true, decide_eq_true_eq] at h
      exact .inr (.inl ⟨_, _, _, h.2.2, h.2.1⟩)
    · split at h
      · simp only [Bool.and_eq_true, decide_eq_true_eq] at h
        exact .inr (.inr ⟨_, _, _, _, h.2.1, h.1, h.2.2.1, h.2.2.2.1, h.2.2.2.2⟩)
      · simp at h
theorem checkC_ok {at' : List Str} {fs : List Fc} (h : checkC at' fs = 0) : ChkC at' fs ∧ fs.length ≤ 65536 := by
  unfold checkC at h
  split at h
  · rename_i h1
    split at h
    · simp at h
    · exact ⟨chk_iff.1 h1, by omega⟩
  · simp at h
/-- what Next answers -/
def NextR (p : List Pc) (at' : List Str) (fs l : List Fc) (e : Int) : Prop :=
  if checkP p ≠ 0 then l = [] ∧ e = checkP p
  else if checkC at' fs ≠ 0 then l = [] ∧ e = checkC at' fs
  else e = 0 ∧ Srt l ∧ ∀ y, y ∈ l ↔ One' p (atS p) (· ∈ fs) y ∧ y ∉ fs
theorem nextR_p {p : List Pc} {at' : List Str} {fs : List Fc} (h : checkP p ≠ 0) : NextR p at' fs [] (checkP p) := by unfold NextR; rw [if_pos h]; exact ⟨rfl, rfl⟩
theorem nextR_c {p : List Pc} {at' : List Str} {fs : List Fc} (h : checkP p = 0) (h2 : checkC at' fs ≠ 0) : NextR p at' fs [] (checkC at' fs) := by unfold NextR; rw [if_neg (by simp [h]), if_pos h2]; exact ⟨rfl, rfl⟩
theorem nextR_ok {p : List Pc} {at' : List Str} {fs q fm : List Fc} {k : Nat} (h : checkP p = 0) (h2 : checkC at' fs = 0) (hI : InvN (uniq [] p) (atS p) fs k (q, fm)) (hk : fs.length ≤ k) (hk2 : k ≤ fs.length) (hn : q.Nodup) : NextR p at' fs (srtF q) 0 := by
  unfold NextR; rw [if_neg (by simp [h]), if_neg (by simp [h2])]
  obtain rfl : k = fs.length := by omega
  refine ⟨rfl, srtF_srt hn, fun y => ?_⟩
  rw [srtF_mem, invN_done hI, uniq_one]
theorem nextN_len {p : List Pc} {fs q : List Fc} {A : List Str} (hF : ∀ y ∈ fs, y.form) (hp : p.length ≤ 100) (hA : A.length ≤ 1000) (hl : fs.length ≤ 65536) (hn : q.Nodup) (hq : ∀ y ∈ q, One' p A (· ∈ fs) y) : q.length ≤ 1000000000000 := by
  have h1 := nodup_le hn (m := firstL p A ++ fs.flatMap (fun f => stepS p fs f)) fun y hy => (next_ref hF y).2 (hq y hy)
  have h2 : (fs.flatMap (fun f => stepS p fs f)).length ≤ fs.length * 14000000 := fm_le fs fun x _ => stepS_len hp hl
  have h3 : (firstL p A).length ≤ A.length * 102 := fm_le A fun x _ => by
    simp only [List.length_cons, List.length_map]
    have := List.length_filter_le (fun x : Pc => decide (x.kind = 7)) p
    omega
  rw [List.length_append] at h1
  omega
theorem ix_start (fs : List Fc) : Ix.nil.of (fun y => y ∈ List.take 0 fs) (fun _ => True) := by
  have e : (fun y => y ∈ fs.take 0) = (fun _ => False) := funext fun y => by simp
  rw [e]; exact Ix.of_nil _
theorem ix_next {x : Ix} {fs : List Fc} {i : Nat} {f : Fc} (h : x.of (fun y => y ∈ List.take i fs) (fun _ => True)) (hf : fs[i]? = some f) : (x.add (decide (f ∈ List.take (i + 1) fs)) f).of (fun y => y ∈ List.take (i + 1) fs) (fun _ => True) := by
  have hm : f ∈ List.take (i + 1) fs := by rw [List.take_add_one, hf]; simp
  have := Ix.of_add h f (b := decide (f ∈ List.take (i + 1) fs)) (by simp [hm])
  have e : (fun y => y ∈ List.take (i + 1) fs) = (fun y => y ∈ List.take i fs ∨ y = f) := funext fun y => by rw [List.take_add_one, hf]; simp
  rw [e]; exact this
theorem pf_sixT {F Ha Hu Ho Hi Hr Hm : Hp} {a b c : Nat × Obj} : ((Ha ++ (Hu ++ (Ho ++ (Hi ++ (Hr ++ (Hm ++ [a, b, c])))))) ++ F).Perm (Ha ++ (Hu ++ (Ho ++ (Hi ++ (Hr ++ (Hm ++ (a :: b :: c :: F))))))) := by simp [List.append_assoc]
set_option maxHeartbeats 4000000 in
theorem next_c (p : List Pc) (pad : Option Addr) (pcap : Nat) (c : Cl) (hsm : ∀ x ∈ p, x.sm) (hp : p.length ≤ 100) (hca : c.atoms.length ≤ 1000000000000) (hcf : c.facts.length ≤ 1000000000000) : Tri Tryz.prog 22 #[.slice pad (List.length p) pcap, Cl.val c] [] [rowF pad (List.flatMap Pc.cells p), tabN, rowF (Cl.aad c) (List.flatMap strC (Cl.atoms c)), rowF (Cl.fad c) (List.flatMap Fc.cells (Cl.facts c))] (fun y : {y : Option Addr × Nat × List Fc × Int // (y.2.2.1.length ≤ y.2.1 ∧ y.2.1 ≤ maxLen ∧ (y.1 = none → y.2.1 = 0)) ∧ NextR p c.atoms c.facts y.2.2.1 y.2.2.2} => .tuple #[.slice y.1.1 y.1.2.2.1.length y.1.2.1, .int .i64 y.1.2.2.2]) (fun _ => []) (fun y => [rowF y.1.1 (y.1.2.2.1.flatMap Fc.cells)]) := by
 refine tri_of_body Tryz.func22 rfl rfl Tryz.ntmps22 rfl fun v0 => ?_
 refine run_seq (run_region (ops_box rfl rfl fun b1 => ?_))
 refine ops_val (yld_assign rfl) rfl (ops_val (yld_assign rfl) rfl (ops_nil (fin_next rfl (run_seq (run_seq (run_region (ops_val (yld_move rfl) rfl ?_)))))))
 refine ops_call (check_c p pad pcap (by omega) hsm) rfl pf_nil (fun v _ h => by exact ⟨h.1, h.2.1, trivial⟩) rfl fun _ => ?_
 refine ops_val (yld_assign rfl) rfl (ops_nil (fin_next rfl (run_seq (run_region (ops_val (yld_move rfl) rfl (ops_valB (yld_neq rfl rfl) rfl fun r1 hr1 => ?_))))))
 refine ops_nil (fin_next rfl ?_)
 cases r1
 ·
  replace hr1 := eq_of_bne hr1
  have hchk := hr1
  refine run_cond_f rfl (run_skip (fin_next rfl (run_seq (run_seq (run_region (ops_val (yld_loadS 0 Tryz.isAgg28 Tryz.sizeOf28 rfl rfl rfl) rfl ?_))))))
  refine ops_call (chk_c c hca hcf) rfl pf_nil (fun v _ h => by exact ⟨h.2.2.1, h.2.2.2.1, trivial⟩) rfl fun _ => ?_
  refine ops_val (yld_assign rfl) rfl (ops_nil (fin_next rfl (run_seq (run_region (ops_val (yld_move rfl) rfl (ops_valB (yld_neq rfl rfl) rfl fun r2 hr2 => ?_))))))
  refine ops_nil (fin_next rfl ?_)
  cases r2
  ·
   replace hr2 := eq_of_bne hr2
   have hchc := hr2
   refine run_cond_f rfl (run_skip (fin_next rfl (run_seq ?_)))
   have hvk := uniq_vok (check_vok hchk)
   obtain ⟨hcc, hfl⟩ := checkC_ok hchc
   have hform : ∀ y ∈ (Cl.facts c), y.form := fun y hy => factOk_form (hcc.ok y hy)
   have hnd : ((Cl.facts c)).Nodup := hcc.sf.nodup
   have hpl : ∀ k, (lat (pmOf (uniq [] p)) k).length ≤ 1000000000 := fun k => by have h1 := lat_len (pmOf (uniq [] p)) k; have h2 := pmOf_len (uniq [] p); have h3 := uniq_len p []; simp only [List.length_nil] at h3; omega
   refine run_region (ops_val (yld_move rfl) rfl (ops_call (newEngine_c p pad pcap (by omega)) rfl pf_nil (fun v _ h => by exact ⟨h.1, trivial⟩) rfl fun ⟨⟨g, pb, kb, ab, ub, ob, ib, rb, sb, fb, lv, hm0, hl0⟩, hy⟩ => ?_))
   dsimp only
   dsimp only [NewE.own, NewE.ok] at hy ⊢
   obtain ⟨hym, hyl⟩ := hy
   simp only [List.cons_append, List.append_assoc]
   refine ok_giveRowN hyl (pf_cons (pf_cons (pf_cons (pf_cons (pf_cons (pf_cons (pf_cons (pf_cons (pf_cons (pf_app pf_hereO)))))))))) fun lad lcap hlad hclad hmlad hzlad => ?_
   subst hlad
   refine ops_alloc Tryz.zeroValue85 rfl fun b2 => ?_
   refine ok_perm (pf_fB pf_here (pf_fB pf_here (pf_fB pf_here (pf_fB pf_here (pf_fB pf_here (pf_fB pf_here (pf_fB pf_here (pf_fB pf_here (pf_fB pf_here (pf_fB pf_here (pf_f1 pf_last))))))))))) ?_
   refine ops_store 0 Tryz.sizeOf85 rfl rfl rfl rfl rfl rfl ?_
   refine ops_nil (fin_next rfl (run_seq (run_region (ops_mkmap rfl fun nb => ?_))))
   refine ops_alloc Tryz.zeroValue88 rfl fun b3 => ?_
   refine ops_store 0 Tryz.sizeOf88 rfl rfl rfl rfl rfl rfl ?_
   refine ops_nil (fin_next rfl (run_seq (run_region (ops_val (yld_load 2 Tryz.isAgg85 rfl rfl rfl) rfl ?_))))
   refine ops_val (yld_func rfl rfl) rfl ?_
   refine ops_val (yld_nilck rfl) rfl ?_
   refine ops_val (yld_field Tryz.runUnderlying94 rfl rfl rfl Tryz.sizeOf89) rfl ?_
   refine ops_store 3 Tryz.sizeOf89 rfl rfl rfl rfl rfl rfl ?_
   refine ops_nil (fin_next rfl (run_seq (run_seq (ok_give (objF b2 (.cells #[.pointer (some ⟨g, 0, none⟩)] 85 (0, 0))) (pf_f1 (pf_cons (pf_cons pf_here))) (fun _ h1 h2 _ => ⟨h1, h2⟩) ?_))))
   refine ok_give (objF b3 (.cells #[.map (some nb)] 88 (0, 0))) (pf_f1 pf_here) (fun _ h1 h2 _ => ⟨h1, h2⟩) ?_
   refine ok_give (objF g (.cells #[.map (some pb), .slice lad (List.length (loopsOf (uniq [] p))) lcap, .map (some kb), .func (.func 67) #[] #[.pointer (some ⟨b2, 0, none⟩), .pointer (some ⟨b3, 0, none⟩)], .map (some ab), .map (some ub), .map (some ob), .map (some ib), .map (some rb), .map (some sb), .map (some fb)] 94 (0, 0))) (pf_f1 (pf_cons pf_here)) (fun _ h1 h2 _ => ⟨h1, h2⟩) ?_
   refine ok_giveM keyKy hym (pf_cons (pf_cons (pf_cons (pf_cons (pf_cons (pf_cons (pf_cons (pf_cons (pf_cons pf_lastB))))))))) fun adr => ?_
   refine run_region (ops_val (yld_field Tryz.runUnderlying28 rfl rfl rfl Tryz.sizeOf26) rfl ?_)
   refine ops_val (yld_load 9 Tryz.isAgg26 rfl rfl rfl) rfl ?_
   refine ops_val (yld_lenS Tryz.runUnderlying26 rfl) rfl ?_
   refine ops_val (yld_move rfl) rfl (ops_nil (fin_next rfl (run_block (ok_fr [(0, .slice pad (List.length p) pcap), (3, .pointer (some ⟨b1, 0, none⟩)), (8, .pointer (some ⟨b2, 0, none⟩)), (9, .pointer (some ⟨b3, 0, none⟩)), (35, .slice (Cl.fad c) (List.length (Cl.facts c)) (Cl.fcap c)), (36, .int .i64 (List.length (Cl.facts c) : Int)), (37, .int .i64 ((0 : Nat) : Int))] ⟨rfl, rfl, rfl, rfl, rfl, rfl, rfl, trivial⟩ ?_))))
   refine ok_weak (H' := ((b1, .cells #[.slice (Cl.aad c) (List.length (Cl.atoms c)) (Cl.acap c), .slice (Cl.fad c) (List.length (Cl.facts c)) (Cl.fcap c)] 28 (0, 0)) :: ((nb, .map #[] 0) :: ((kb, .map #[] 0) :: ((fb, .map #[] 0) :: ([(ab, .map #[] 0)] ++ ([(ub, .map #[] 0)] ++ ([(ob, .map #[] 0)] ++ ([(ib, .map #[] 0)] ++ ([(rb, .map #[] 0)] ++ [(sb, .map #[] 0)])))))))))) (Γ' := [mlF Tryz.prog 171 Ky.val Pc.cells pb (pmOf (uniq [] p)) adr, objF g (.cells #[.map (some pb), .slice lad (List.length (loopsOf (uniq [] p))) lcap, .map (some kb), .func (.func 67) #[] #[.pointer (some ⟨b2, 0, none⟩), .pointer (some ⟨b3, 0, none⟩)], .map (some ab), .map (some ub), .map (some ob), .map (some ib), .map (some rb), .map (some sb), .map (some fb)] 94 (0, 0)), objF b3 (.cells #[.map (some nb)] 88 (0, 0)), objF b2 (.cells #[.pointer (some ⟨g, 0, none⟩)] 85 (0, 0)), rowF lad (List.flatMap strC (loopsOf (uniq [] p))), rowF pad (List.flatMap Pc.cells p), tabN, rowF (Cl.aad c) (List.flatMap strC (Cl.atoms c)), rowF (Cl.fad c) (List.flatMap Fc.cells (Cl.facts c))]) (pf_takeB (pf_cons (pf_cons (pf_cons (pf_cons (pf_cons (pf_cons (pf_cons (pf_cons (pf_cons pf_here))))))))) (pf_takeB pf_here (pf_takeB pf_here (pf_takeB (pf_cons (pf_cons (pf_cons (pf_cons (pf_cons (pf_cons pf_here)))))) (pf_takeB pf_here (pf_takeB pf_here (pf_takeB pf_here (pf_takeB pf_here (pf_takeB pf_here pf_here))))))))) (fun v _ h => by exact ⟨h.1, h.2.1, h.2.2.1, h.2.2.2.1, h.2.2.2.2.1, h.2.2.2.2.2.1, h.2.2.2.2.2.2.1, h.2.2.2.2.2.2.2.1, h.2.2.2.2.2.2.2.2.1, trivial⟩) ?_
   refine run_loop (ι := {y : Nat × Ix × Array MapEntry × Nat × Array MapEntry × Nat × Hp × Hp × Hp × Hp × Hp × Hp // y.1 ≤ List.length (Cl.facts c) ∧ SetE Fc.val y.2.2.1 (List.take y.1 (Cl.facts c)) ∧ SetE Fc.val y.2.2.2.2.1 (List.take y.1 (Cl.facts c)) ∧ IxO 9 41 (EngB.mk g pb ab ub ob ib rb sb lad lcap (loopsOf (uniq [] p))) y.2.1 ⟨y.2.2.2.2.2.2.1, y.2.2.2.2.2.2.2.1, y.2.2.2.2.2.2.2.2.1, y.2.2.2.2.2.2.2.2.2.1, y.2.2.2.2.2.2.2.2.2.2.1, y.2.2.2.2.2.2.2.2.2.2.2⟩ ∧ ixSz y.2.1 y.1 ∧ y.2.1.of (fun z => z ∈ (List.take y.1 (Cl.facts c))) (fun _ => True)}) (fun y => [(0, .slice pad (List.length p) pcap), (3, .pointer (some ⟨b1, 0, none⟩)), (8, .pointer (some ⟨b2, 0, none⟩)), (9, .pointer (some ⟨b3, 0, none⟩)), (35, .slice (Cl.fad c) (List.length (Cl.facts c)) (Cl.fcap c)), (36, .int .i64 (List.length (Cl.facts c) : Int)), (37, .int .i64 (y.1.1 : Int))]) (fun y => ((b1, .cells #[.slice (Cl.aad c) (List.length (Cl.atoms c)) (Cl.acap c), .slice (Cl.fad c) (List.length (Cl.facts c)) (Cl.fcap c)] 28 (0, 0)) :: ((nb, .map #[] 0) :: ((kb, .map y.1.2.2.1 y.1.2.2.2.1) :: ((fb, .map y.1.2.2.2.2.1 y.1.2.2.2.2.2.1) :: (y.1.2.2.2.2.2.2.1 ++ (y.1.2.2.2.2.2.2.2.1 ++ (y.1.2.2.2.2.2.2.2.2.1 ++ (y.1.2.2.2.2.2.2.2.2.2.1 ++ (y.1.2.2.2.2.2.2.2.2.2.2.1 ++ y.1.2.2.2.2.2.2.2.2.2.2.2)))))))))) (fun y => [mlF Tryz.prog 171 Ky.val Pc.cells pb (pmOf (uniq [] p)) adr, objF g (.cells #[.map (some pb), .slice lad (List.length (loopsOf (uniq [] p))) lcap, .map (some kb), .func (.func 67) #[] #[.pointer (some ⟨b2, 0, none⟩), .pointer (some ⟨b3, 0, none⟩)], .map (some ab), .map (some ub), .map (some ob), .map (some ib), .map (some rb), .map (some sb), .map (some fb)] 94 (0, 0)), objF b3 (.cells #[.map (some nb)] 88 (0, 0)), objF b2 (.cells #[.pointer (some ⟨g, 0, none⟩)] 85 (0, 0)), rowF lad (List.flatMap strC (loopsOf (uniq [] p))), rowF pad (List.flatMap Pc.cells p), tabN, rowF (Cl.aad c) (List.flatMap strC (Cl.atoms c)), rowF (Cl.fad c) (List.flatMap Fc.cells (Cl.facts c))]) (fun y => List.length (Cl.facts c) - y.1.1) ⟨((0 : Nat), Ix.nil, #[], 0, #[], 0, [(ab, .map #[] 0)], [(ub, .map #[] 0)], [(ob, .map #[] 0)], [(ib, .map #[] 0)], [(rb, .map #[] 0)], [(sb, .map #[] 0)]), by simp, by exact SetE.nil, by exact SetE.nil, ⟨MLog.nil _ _, MLog.nil _ _, MLog.nil _ _, MLog.nil _ _, MLog.nil _ _, MLog.nil _ _⟩, ixSz_nil, ix_start _⟩ ?_
   rintro ⟨⟨i, x, es, c1, es2, c2, Ha, Hu, Ho, Hi, Hr, Hm⟩, hi, hK, hF, hI, hz, hxo⟩
   dsimp only at hi hK hF hI hz hxo ⊢
   refine ok_fr [(0, .slice pad (List.length p) pcap), (3, .pointer (some ⟨b1, 0, none⟩)), (8, .pointer (some ⟨b2, 0, none⟩)), (9, .pointer (some ⟨b3, 0, none⟩)), (35, .slice (Cl.fad c) (List.length (Cl.facts c)) (Cl.fcap c)), (36, .int .i64 (List.length (Cl.facts c) : Int)), (37, .int .i64 (i : Int))] ⟨rfl, rfl, rfl, rfl, rfl, rfl, rfl, trivial⟩ ?_
   obtain ⟨hxl, hyl⟩ := ixSz_lat hz (by omega)
   refine run_seq (run_region (ops_valB (yld_lss rfl rfl) rfl fun r3 hr3 => ?_))
   refine ops_nil (fin_next rfl (run_seq ?_))
   cases r3
   ·
    replace hr3 := of_decide_eq_false hr3
    have e9 : (List.take i (Cl.facts c)) = (Cl.facts c) := List.take_of_length_le (by omega)
    rw [e9] at hK hF hxo
    refine run_cond_f rfl (run_exit rfl (fin_next rfl (run_seq ?_)))
    refine run_drawH ((b1, .cells #[.slice (Cl.aad c) (List.length (Cl.atoms c)) (Cl.acap c), .slice (Cl.fad c) (List.length (Cl.facts c)) (Cl.fcap c)] 28 (0, 0)) :: (Ha ++ (Hu ++ (Ho ++ (Hi ++ (Hr ++ Hm)))))) (by kernel_rfl) ?_
    refine any_sq 2 [0, 1] (by kernel_rfl) (fun _ a b => ⟨Vw.sat.sub (a.perm (pf_takeB pf_here (pf_takeO (pf_cons (pf_cons (pf_cons pf_hereO))) (pf_takeO (pf_cons (pf_cons (pf_cons pf_hereO))) (pf_takeO (pf_cons (pf_cons (pf_cons pf_hereO))) (pf_takeO (pf_cons (pf_cons (pf_cons pf_hereO))) (pf_takeO (pf_cons (pf_cons (pf_cons pf_hereO))) (pf_cons (pf_cons pf_lastB))))))))), b⟩) ?_
    refine sq_val rfl (yld_loadO Tryz.isAgg85 rfl (fun v _ h => by exact h.2.2.2.1) rfl) rfl ?_
    refine sq_val rfl (yld_move rfl) rfl ?_
    refine sq_nil ?_
    refine any_one 2 rfl (by kernel_rfl) ?_
    refine ops_call (atS_c p pad pcap (by omega)) rfl pf_nil (fun v _ h => by exact ⟨h.2.2.2.2.2.1, trivial⟩) rfl fun ⟨⟨aad, acap⟩, hac, ham, haz⟩ => ?_
    dsimp only
    refine ops_nil (fin_inv rfl (any_next (fun _ a b => ⟨Vw.sat.sub (a.perm (pf_takeB pf_here (pf_takeO (pf_cons (pf_cons (pf_cons pf_hereO))) (pf_takeO (pf_cons (pf_cons (pf_cons pf_hereO))) (pf_takeO (pf_cons (pf_cons (pf_cons pf_hereO))) (pf_takeO (pf_cons (pf_cons (pf_cons pf_hereO))) (pf_takeO (pf_cons (pf_cons (pf_cons pf_hereO))) (pf_cons (pf_cons pf_lastB))))))))), b.2⟩) ?_))
    refine any_one 3 rfl (by kernel_rfl) ?_
    refine ops_call (begin_c (EngB.mk g pb ab ub ob ib rb sb lad lcap (loopsOf (uniq [] p))) (EN (Cl.facts c) (EngB.mk g pb ab ub ob ib rb sb lad lcap (loopsOf (uniq [] p))) b2 b3 kb fb nb) [] (Cl.facts c) [(nb, .map #[] 0), (kb, .map es c1), (fb, .map es2 c2)] ⟨es, c1, es2, c2, (Cl.facts c), #[], 0, rfl, SetE.nil, hK, hF, fun _ => Iff.rfl, Born.nil 0⟩ (atS p) aad acap (by have := atS_len p; omega) (by have := loopsOf_len (uniq [] p); have h3 := uniq_len p []; simp only [List.length_nil] at h3; show (loopsOf (uniq [] p)).length ≤ _; omega)) rfl (pf_takeB (pf_cons pf_here) (pf_takeB (pf_cons pf_here) (pf_cons pf_here))) (fun v _ h => by exact ⟨h.2.2.1, h.2.2.2.2.2.1, h.1, ⟨h.2.2.2.2.1, h.2.2.2.1, h.2.2.1⟩, trivial⟩) rfl fun ⟨Hs1, hS1⟩ => ?_
    dsimp only
    refine ops_nil (fin_inv rfl (any_next (fun _ a b => ⟨Vw.sat.sub (a.perm (pf_takeB (pf_app pf_here) (pf_takeO (pf_app pf_hereO) (pf_takeO (pf_app pf_hereO) (pf_takeO (pf_app pf_hereO) (pf_takeO (pf_app pf_hereO) (pf_takeO (pf_app pf_hereO) pf_last))))))), b.2⟩) ?_))
    refine any_done (by kernel_rfl) ?_
    refine fin_next rfl (ok_perm (pf_f1 (pf_app pf_here)) ?_)
    refine run_seq (run_region (ops_val (yld_loadO Tryz.isAgg85 rfl (fun v _ h => by exact h.2.2.2.2.1) rfl) rfl ?_))
    refine ops_call (rules_c g) rfl pf_nil (fun _ _ _ => by exact trivial) rfl fun ⟨r1, r2, r3⟩ => ?_
    dsimp only
    refine ops_alloc Tryz.zeroValue98 rfl fun b4 => ?_
    refine ops_store 0 Tryz.sizeOf98 rfl rfl rfl rfl rfl rfl ?_
    refine ops_nil (fin_next rfl (run_seq (run_seq (run_region (ops_val (yld_field Tryz.runUnderlying28 rfl rfl rfl Tryz.sizeOf26) rfl ?_)))))
    refine ops_val (yld_load 1 Tryz.isAgg26 rfl rfl rfl) rfl ?_
    refine ops_val (yld_lenS Tryz.runUnderlying26 rfl) rfl ?_
    refine ops_val (yld_move rfl) rfl (ops_nil (fin_next rfl (run_block (ok_fr [(0, .slice pad (List.length p) pcap), (3, .pointer (some ⟨b1, 0, none⟩)), (8, .pointer (some ⟨b2, 0, none⟩)), (9, .pointer (some ⟨b3, 0, none⟩)), (12, .pointer (some ⟨b4, 0, none⟩)), (62, .slice (Cl.fad c) (List.length (Cl.facts c)) (Cl.fcap c)), (63, .int .i64 (List.length (Cl.facts c) : Int)), (64, .int .i64 ((0 : Nat) : Int))] ⟨rfl, rfl, rfl, rfl, rfl, rfl, rfl, rfl, trivial⟩ ?_))))
    refine ok_weak (H' := ((b1, .cells #[.slice (Cl.aad c) (List.length (Cl.atoms c)) (Cl.acap c), .slice (Cl.fad c) (List.length (Cl.facts c)) (Cl.fcap c)] 28 (0, 0)) :: ((b4, .cells #[.slice none 0 0, .slice (some ⟨r1, 0, none⟩) 6 6, .slice (some ⟨r2, 0, none⟩) 4 4, .slice (some ⟨r3, 0, none⟩) 2 2] 98 (0, 0)) :: (Ha ++ (Hu ++ (Ho ++ (Hi ++ (Hr ++ (Hm ++ Hs1))))))))) (Γ' := [rowF (some ⟨r1, 0, none⟩) (List.flatMap fvC (rlV g 1)), rowF (some ⟨r2, 0, none⟩) (List.flatMap fvC (rlV g 2)), rowF (some ⟨r3, 0, none⟩) (List.flatMap fvC (rlV g 3)), rowF aad (List.flatMap strC (atS p)), mlF Tryz.prog 171 Ky.val Pc.cells pb (pmOf (uniq [] p)) adr, objF g (.cells #[.map (some pb), .slice lad (List.length (loopsOf (uniq [] p))) lcap, .map (some kb), .func (.func 67) #[] #[.pointer (some ⟨b2, 0, none⟩), .pointer (some ⟨b3, 0, none⟩)], .map (some ab), .map (some ub), .map (some ob), .map (some ib), .map (some rb), .map (some sb), .map (some fb)] 94 (0, 0)), objF b3 (.cells #[.map (some nb)] 88 (0, 0)), objF b2 (.cells #[.pointer (some ⟨g, 0, none⟩)] 85 (0, 0)), rowF lad (List.flatMap strC (loopsOf (uniq [] p))), rowF pad (List.flatMap Pc.cells p), tabN, rowF (Cl.aad c) (List.flatMap strC (Cl.atoms c)), rowF (Cl.fad c) (List.flatMap Fc.cells (Cl.facts c))]) (pf_takeB (pf_cons pf_here) (pf_takeB pf_here (pf_takeO (pf_app pf_hereO) (pf_takeO (pf_app pf_hereO) (pf_takeO (pf_app pf_hereO) (pf_takeO (pf_app pf_hereO) (pf_takeO (pf_app pf_hereO) (pf_takeO pf_last pf_end)))))))) (fun v _ h => by exact ⟨h.1, h.2.1, h.2.2.1, h.2.2.2.1, h.2.2.2.2.1, h.2.2.2.2.2.1, h.2.2.2.2.2.2.1, h.2.2.2.2.2.2.2.1, h.2.2.2.2.2.2.2.2.1, h.2.2.2.2.2.2.2.2.2.1, h.2.2.2.2.2.2.2.2.2.2.1, h.2.2.2.2.2.2.2.2.2.2.2.1, h.2.2.2.2.2.2.2.2.2.2.2.2.1, trivial⟩) ?_
    refine run_loop (ι := {y : Nat × List Fc × List Fc × Hp // y.1 ≤ List.length (Cl.facts c) ∧ InvN (uniq [] p) (atS p) (Cl.facts c) y.1 (y.2.1, y.2.2.1) ∧ ((EN (Cl.facts c) (EngB.mk g pb ab ub ob ib rb sb lad lcap (loopsOf (uniq [] p))) b2 b3 kb fb nb)).St y.2.1 y.2.2.1 y.2.2.2}) (fun y => [(0, .slice pad (List.length p) pcap), (3, .pointer (some ⟨b1, 0, none⟩)), (8, .pointer (some ⟨b2, 0, none⟩)), (9, .pointer (some ⟨b3, 0, none⟩)), (12, .pointer (some ⟨b4, 0, none⟩)), (62, .slice (Cl.fad c) (List.length (Cl.facts c)) (Cl.fcap c)), (63, .int .i64 (List.length (Cl.facts c) : Int)), (64, .int .i64 (y.1.1 : Int))]) (fun y => ((b1, .cells #[.slice (Cl.aad c) (List.length (Cl.atoms c)) (Cl.acap c), .slice (Cl.fad c) (List.length (Cl.facts c)) (Cl.fcap c)] 28 (0, 0)) :: ((b4, .cells #[.slice none 0 0, .slice (some ⟨r1, 0, none⟩) 6 6, .slice (some ⟨r2, 0, none⟩) 4 4, .slice (some ⟨r3, 0, none⟩) 2 2] 98 (0, 0)) :: (Ha ++ (Hu ++ (Ho ++ (Hi ++ (Hr ++ (Hm ++ y.1.2.2.2))))))))) (fun y => [rowF (some ⟨r1, 0, none⟩) (List.flatMap fvC (rlV g 1)), rowF (some ⟨r2, 0, none⟩) (List.flatMap fvC (rlV g 2)), rowF (some ⟨r3, 0, none⟩) (List.flatMap fvC (rlV g 3)), rowF aad (List.flatMap strC (atS p)), mlF Tryz.prog 171 Ky.val Pc.cells pb (pmOf (uniq [] p)) adr, objF g (.cells #[.map (some pb), .slice lad (List.length (loopsOf (uniq [] p))) lcap, .map (some kb), .func (.func 67) #[] #[.pointer (some ⟨b2, 0, none⟩), .pointer (some ⟨b3, 0, none⟩)], .map (some ab), .map (some ub), .map (some ob), .map (some ib), .map (some rb), .map (some sb), .map (some fb)] 94 (0, 0)), objF b3 (.cells #[.map (some nb)] 88 (0, 0)), objF b2 (.cells #[.pointer (some ⟨g, 0, none⟩)] 85 (0, 0)), rowF lad (List.flatMap strC (loopsOf (uniq [] p))), rowF pad (List.flatMap Pc.cells p), tabN, rowF (Cl.aad c) (List.flatMap strC (Cl.atoms c)), rowF (Cl.fad c) (List.flatMap Fc.cells (Cl.facts c))]) (fun y => List.length (Cl.facts c) - y.1.1) ⟨((0 : Nat), (emits (stpN (Cl.facts c)) (beginL (loopsOf (uniq [] p)) (atS p)) []), (Cl.facts c), Hs1), by simp, invN_start (fun _ h => h), by exact hS1⟩ ?_
    rintro ⟨⟨k, q, fm, Hs⟩, hkl, hN, hS⟩
    dsimp only at hkl hN hS ⊢
    refine ok_fr [(0, .slice pad (List.length p) pcap), (3, .pointer (some ⟨b1, 0, none⟩)), (8, .pointer (some ⟨b2, 0, none⟩)), (9, .pointer (some ⟨b3, 0, none⟩)), (12, .pointer (some ⟨b4, 0, none⟩)), (62, .slice (Cl.fad c) (List.length (Cl.facts c)) (Cl.fcap c)), (63, .int .i64 (List.length (Cl.facts c) : Int)), (64, .int .i64 (k : Int))] ⟨rfl, rfl, rfl, rfl, rfl, rfl, rfl, rfl, trivial⟩ ?_
    refine run_seq (run_region (ops_valB (yld_lss rfl rfl) rfl fun r4 hr4 => ?_))
    refine ops_nil (fin_next rfl (run_seq ?_))
    cases r4
    ·
     replace hr4 := of_decide_eq_false hr4
     refine run_cond_f rfl (run_exit rfl (fin_next rfl (run_seq ?_)))
     obtain ⟨es5, c5, es6, c6, q6, es7, c7, hHs, hE7, hE5, hE6, hq6, hB7⟩ := hS
     subst hHs
     have hone : ∀ y ∈ q, One' p (atS p) (· ∈ (Cl.facts c)) y := fun y hy => by have e : k = ((Cl.facts c)).length := (by omega); subst e; exact uniq_one.1 ((invN_done hN y).1 hy).1
     have hql := nextN_len hform hp (by have := atS_len p; omega) hfl hE7.nd hone
     refine run_region (ops_val (yld_loadO Tryz.isAgg88 rfl (fun v _ h => by exact h.2.2.2.2.2.2.1) rfl) rfl ?_)
     refine ops_call (keysF_c nb) rfl pf_nil (fun _ _ _ => by exact trivial) rfl fun bx => ?_
     refine ops_call (sortedF_c nb bx c7 es7 q hE7 hB7 hql) rfl (pf_takeB pf_here (pf_cons (pf_cons (pf_app (pf_app (pf_app (pf_app (pf_app (pf_app pf_here))))))))) (fun _ _ _ => by exact trivial) rfl fun ⟨⟨oad, ocap⟩, hoc, hom, hoz⟩ => ?_
     dsimp only
     refine ops_val (yld_assign rfl) rfl (ops_val (yld_assign rfl) rfl (ops_nil (fin_next rfl (run_ret ?_))))
     exact ret2 Tryz.results22 ⟨(oad, ocap, srtF q, 0), ⟨hoc, hom, hoz⟩, nextR_ok hchk hchc hN (by omega) (by omega) hE7.nd⟩ rfl rfl rfl pf_nil (fun v _ h => by exact ⟨h.1, trivial⟩)
    ·
     replace hr4 := of_decide_eq_true hr4
     have hlf2 : k < List.length (Cl.facts c) := by omega
     obtain ⟨f2, hf2⟩ : ∃ e0, (Cl.facts c)[k]? = some e0 := ⟨_, List.getElem?_eq_getElem hlf2⟩
     have hmf2 : f2 ∈ (Cl.facts c) := List.mem_of_getElem? hf2
     have hform2 := hform f2 hmf2
     obtain ⟨hxl, hyl⟩ := ixSz_lat hz (by omega)
     refine run_cond_t rfl (run_skip (fin_next rfl (run_seq (run_block (run_seq (run_region (ops_val (yld_indexR Tryz.runUnderlying26 Tryz.sizeOf41 rfl rfl (fun v _ h => row_adr (n := 6) Fc.cells_len (by decide) (by exact h.2.2.2.2.2.2.2.2.2.2.2.2.1) hf2) (by omega) (by first | omega | (simp; done))) rfl ?_)))))))
     refine ops_val (yld_loadRS (ad := (Cl.fad c)) (us := Fc.cells f2) Tryz.isAgg41 Tryz.sizeOf41 rfl (fun v _ h => by exact h.2.2.2.2.2.2.2.2.2.2.2.2.1) (Fc.cells_len _) (row_cells Fc.cells_len hf2)) rfl ?_
     refine ops_alloc Tryz.zeroValue41 rfl fun b5 => ?_
     refine ops_store 0 Tryz.sizeOf41 rfl rfl rfl rfl rfl rfl ?_
     refine ops_nil (fin_next rfl (run_seq (run_region (ops_val (yld_field Tryz.runUnderlying41 rfl rfl rfl Tryz.sizeOf3) rfl ?_))))
     refine ops_val (yld_load 0 Tryz.isAgg3 rfl rfl rfl) rfl ?_
     rcases form_kind hform2 with hk | hk | hk
     ·
      refine ops_val (yld_eq (yld_indexA Tryz.runUnderlying98 Tryz.sizeOf97 rfl rfl (by omega) (by omega)) (show _ = Value.pointer (some ⟨b4, 1, none⟩) from by rw [hk]; rfl)) rfl ?_
      refine ops_val (yld_load 2 Tryz.isAgg97 rfl rfl rfl) rfl ?_
      refine ops_val (yld_lenS Tryz.runUnderlying97 rfl) rfl ?_
      refine ops_val (yld_move rfl) rfl (ops_nil (fin_next rfl (run_block (ok_fr [(0, .slice pad (List.length p) pcap), (3, .pointer (some ⟨b1, 0, none⟩)), (8, .pointer (some ⟨b2, 0, none⟩)), (9, .pointer (some ⟨b3, 0, none⟩)), (12, .pointer (some ⟨b4, 0, none⟩)), (14, .pointer (some ⟨b5, 0, none⟩)), (62, .slice (Cl.fad c) (List.length (Cl.facts c)) (Cl.fcap c)), (63, .int .i64 (List.length (Cl.facts c) : Int)), (64, .int .i64 (k : Int)), (71, .slice (some ⟨r1, 0, none⟩) 6 6), (72, .int .i64 6), (73, .int .i64 ((0 : Nat) : Int))] ⟨rfl, rfl, rfl, rfl, rfl, rfl, rfl, rfl, rfl, rfl, rfl, rfl, trivial⟩ ?_))))
      refine ok_weak (H' := ((b1, .cells #[.slice (Cl.aad c) (List.length (Cl.atoms c)) (Cl.acap c), .slice (Cl.fad c) (List.length (Cl.facts c)) (Cl.fcap c)] 28 (0, 0)) :: ((b4, .cells #[.slice none 0 0, .slice (some ⟨r1, 0, none⟩) 6 6, .slice (some ⟨r2, 0, none⟩) 4 4, .slice (some ⟨r3, 0, none⟩) 2 2] 98 (0, 0)) :: ((b5, .cells #[.int .i64 (Fc.kind f2), str (Fc.a f2), str (Fc.b f2), str (Fc.r f2), .int .i64 (Fc.lo f2), .int .i64 (Fc.hi f2)] 41 (0, 0)) :: (Ha ++ (Hu ++ (Ho ++ (Hi ++ (Hr ++ (Hm ++ Hs)))))))))) (Γ' := [rowF (some ⟨r1, 0, none⟩) (List.flatMap fvC (rlV g 1)), rowF (some ⟨r2, 0, none⟩) (List.flatMap fvC (rlV g 2)), rowF (some ⟨r3, 0, none⟩) (List.flatMap fvC (rlV g 3)), rowF aad (List.flatMap strC (atS p)), mlF Tryz.prog 171 Ky.val Pc.cells pb (pmOf (uniq [] p)) adr, objF g (.cells #[.map (some pb), .slice lad (List.length (loopsOf (uniq [] p))) lcap, .map (some kb), .func (.func 67) #[] #[.pointer (some ⟨b2, 0, none⟩), .pointer (some ⟨b3, 0, none⟩)], .map (some ab), .map (some ub), .map (some ob), .map (some ib), .map (some rb), .map (some sb), .map (some fb)] 94 (0, 0)), objF b3 (.cells #[.map (some nb)] 88 (0, 0)), objF b2 (.cells #[.pointer (some ⟨g, 0, none⟩)] 85 (0, 0)), rowF lad (List.flatMap strC (loopsOf (uniq [] p))), rowF pad (List.flatMap Pc.cells p), tabN, rowF (Cl.aad c) (List.flatMap strC (Cl.atoms c)), rowF (Cl.fad c) (List.flatMap Fc.cells (Cl.facts c))]) (pf_takeB (pf_cons pf_here) (pf_takeB (pf_cons pf_here) (pf_takeB pf_here (pf_takeO pf_hereO (pf_takeO pf_hereO (pf_takeO pf_hereO (pf_takeO pf_hereO (pf_takeO pf_hereO (pf_takeO pf_hereO pf_end))))))))) (fun v _ h => by exact ⟨h.1, h.2.1, h.2.2.1, h.2.2.2.1, h.2.2.2.2.1, h.2.2.2.2.2.1, h.2.2.2.2.2.2.1, h.2.2.2.2.2.2.2.1, h.2.2.2.2.2.2.2.2.1, h.2.2.2.2.2.2.2.2.2.1, h.2.2.2.2.2.2.2.2.2.2.1, h.2.2.2.2.2.2.2.2.2.2.2.1, h.2.2.2.2.2.2.2.2.2.2.2.2.1, trivial⟩) ?_
      refine run_loop (ι := {y : Nat × Hp // y.1 ≤ 6 ∧ ((EN (Cl.facts c) (EngB.mk g pb ab ub ob ib rb sb lad lcap (loopsOf (uniq [] p))) b2 b3 kb fb nb)).St (rls (stpN (Cl.facts c)) (kofN (Cl.facts c)) (pmOf (uniq [] p)) x f2 y.1 (q, fm)).1 (rls (stpN (Cl.facts c)) (kofN (Cl.facts c)) (pmOf (uniq [] p)) x f2 y.1 (q, fm)).2 y.2}) (fun y => [(0, .slice pad (List.length p) pcap), (3, .pointer (some ⟨b1, 0, none⟩)), (8, .pointer (some ⟨b2, 0, none⟩)), (9, .pointer (some ⟨b3, 0, none⟩)), (12, .pointer (some ⟨b4, 0, none⟩)), (14, .pointer (some ⟨b5, 0, none⟩)), (62, .slice (Cl.fad c) (List.length (Cl.facts c)) (Cl.fcap c)), (63, .int .i64 (List.length (Cl.facts c) : Int)), (64, .int .i64 (k : Int)), (71, .slice (some ⟨r1, 0, none⟩) 6 6), (72, .int .i64 6), (73, .int .i64 (y.1.1 : Int))]) (fun y => ((b1, .cells #[.slice (Cl.aad c) (List.length (Cl.atoms c)) (Cl.acap c), .slice (Cl.fad c) (List.length (Cl.facts c)) (Cl.fcap c)] 28 (0, 0)) :: ((b4, .cells #[.slice none 0 0, .slice (some ⟨r1, 0, none⟩) 6 6, .slice (some ⟨r2, 0, none⟩) 4 4, .slice (some ⟨r3, 0, none⟩) 2 2] 98 (0, 0)) :: ((b5, .cells #[.int .i64 (Fc.kind f2), str (Fc.a f2), str (Fc.b f2), str (Fc.r f2), .int .i64 (Fc.lo f2), .int .i64 (Fc.hi f2)] 41 (0, 0)) :: (Ha ++ (Hu ++ (Ho ++ (Hi ++ (Hr ++ (Hm ++ y.1.2)))))))))) (fun y => [rowF (some ⟨r1, 0, none⟩) (List.flatMap fvC (rlV g 1)), rowF (some ⟨r2, 0, none⟩) (List.flatMap fvC (rlV g 2)), rowF (some ⟨r3, 0, none⟩) (List.flatMap fvC (rlV g 3)), rowF aad (List.flatMap strC (atS p)), mlF Tryz.prog 171 Ky.val Pc.cells pb (pmOf (uniq [] p)) adr, objF g (.cells #[.map (some pb), .slice lad (List.length (loopsOf (uniq [] p))) lcap, .map (some kb), .func (.func 67) #[] #[.pointer (some ⟨b2, 0, none⟩), .pointer (some ⟨b3, 0, none⟩)], .map (some ab), .map (some ub), .map (some ob), .map (some ib), .map (some rb), .map (some sb), .map (some fb)] 94 (0, 0)), objF b3 (.cells #[.map (some nb)] 88 (0, 0)), objF b2 (.cells #[.pointer (some ⟨g, 0, none⟩)] 85 (0, 0)), rowF lad (List.flatMap strC (loopsOf (uniq [] p))), rowF pad (List.flatMap Pc.cells p), tabN, rowF (Cl.aad c) (List.flatMap strC (Cl.atoms c)), rowF (Cl.fad c) (List.flatMap Fc.cells (Cl.facts c))]) (fun y => 6 - y.1.1) ⟨((0 : Nat), Hs), by omega, by exact hS⟩ ?_
      rintro ⟨⟨j, Hs⟩, hj, hS2⟩
      dsimp only at hj hS2 ⊢
      refine ok_fr [(0, .slice pad (List.length p) pcap), (3, .pointer (some ⟨b1, 0, none⟩)), (8, .pointer (some ⟨b2, 0, none⟩)), (9, .pointer (some ⟨b3, 0, none⟩)), (12, .pointer (some ⟨b4, 0, none⟩)), (14, .pointer (some ⟨b5, 0, none⟩)), (62, .slice (Cl.fad c) (List.length (Cl.facts c)) (Cl.fcap c)), (63, .int .i64 (List.length (Cl.facts c) : Int)), (64, .int .i64 (k : Int)), (71, .slice (some ⟨r1, 0, none⟩) 6 6), (72, .int .i64 6), (73, .int .i64 (j : Int))] ⟨rfl, rfl, rfl, rfl, rfl, rfl, rfl, rfl, rfl, rfl, rfl, rfl, trivial⟩ ?_
      refine run_seq (run_region (ops_valB (yld_lss rfl rfl) rfl fun r5 hr5 => ?_))
      refine ops_nil (fin_next rfl (run_seq ?_))
      cases r5
      ·
       replace hr5 := of_decide_eq_false hr5
       have ej : j = 6 := by omega
       rw [ej] at hS2
       refine run_cond_f rfl (run_exit rfl (fin_next rfl (run_region (ops_val (yld_arith rfl rfl rfl (wrap64 (by omega) (by omega))) rfl ?_))))
       refine ops_val (yld_move rfl) rfl (ops_nil (fin_inv rfl ?_))
       exact ok_again ⟨(k + 1, (rls (stpN (Cl.facts c)) (kofN (Cl.facts c)) (pmOf (uniq [] p)) x f2 6 (q, fm)).1, (rls (stpN (Cl.facts c)) (kofN (Cl.facts c)) (pmOf (uniq [] p)) x f2 6 (q, fm)).2, Hs), hlf2, (invN_step hvk hxo hform hN hf2 (by have e : nrl f2 = 6 := (by unfold nrl; simp [hk]); rw [e])), by exact (by exact hS2)⟩ (by dsimp only; omega) ⟨rfl, rfl, rfl, rfl, rfl, rfl, rfl, rfl, trivial⟩ (pf_takeB pf_here (pf_takeB pf_here (pf_takeO (pf_cons pf_hereO) (pf_takeO (pf_cons pf_hereO) (pf_takeO (pf_cons pf_hereO) (pf_takeO (pf_cons pf_hereO) (pf_takeO (pf_cons pf_hereO) (pf_takeO (pf_cons pf_hereO) pf_lastB)))))))) (fun v _ h => by exact ⟨h.1, h.2.1, h.2.2.1, h.2.2.2.1, h.2.2.2.2.1, h.2.2.2.2.2.1, h.2.2.2.2.2.2.1, h.2.2.2.2.2.2.2.1, h.2.2.2.2.2.2.2.2.1, h.2.2.2.2.2.2.2.2.2.1, h.2.2.2.2.2.2.2.2.2.2.1, h.2.2.2.2.2.2.2.2.2.2.2.1, h.2.2.2.2.2.2.2.2.2.2.2.2.1, trivial⟩)
      ·
       replace hr5 := of_decide_eq_true hr5
       have hlfv : j < List.length (rlV g 1) := by show j < 6; omega
       obtain ⟨fv, hfv⟩ : ∃ e0, (rlV g 1)[j]? = some e0 := ⟨_, List.getElem?_eq_getElem hlfv⟩
       have hmfv : fv ∈ (rlV g 1) := List.mem_of_getElem? hfv
       refine run_cond_t rfl (run_skip (fin_next rfl (run_seq (run_block (run_seq (run_region (ops_val (yld_indexR Tryz.runUnderlying97 Tryz.sizeOf89 rfl rfl (fun v _ h => row_adr (n := 1) fvC_len (by decide) (by exact h.1) hfv) (by omega) (by omega)) rfl ?_)))))))
       refine ops_val (yld_loadR (ad := (some ⟨r1, 0, none⟩)) Tryz.isAgg89 rfl (fun v _ h => by exact h.1) (row_cells fvC_len hfv 0 _ rfl)) rfl ?_
       refine ops_val (yld_assign rfl) rfl (ops_nil (fin_next rfl (run_region (ops_val (yld_move rfl) rfl (ops_val (yld_loadS 2 Tryz.isAgg41 Tryz.sizeOf41 rfl rfl rfl) rfl ?_)))))
       obtain ⟨nr, rfl, hT⟩ := rule1_c (EngB.mk g pb ab ub ob ib rb sb lad lcap (loopsOf (uniq [] p))) (EN (Cl.facts c) (EngB.mk g pb ab ub ob ib rb sb lad lcap (loopsOf (uniq [] p))) b2 b3 kb fb nb) (EngA.mk adr (fun _ => (none, 0)) (fun _ => (none, 0)) (fun _ => (none, 0)) (fun _ => (none, 0)) (fun _ => (none, 0)) (fun _ => (none, 0))) (pmOf (uniq [] p)) x f2 (rls (stpN (Cl.facts c)) (kofN (Cl.facts c)) (pmOf (uniq [] p)) x f2 j (q, fm)).1 (rls (stpN (Cl.facts c)) (kofN (Cl.facts c)) (pmOf (uniq [] p)) x f2 j (q, fm)).2 Hs hS2 Ha Hu Ho Hi Hr Hm hI hpl hxl hyl (fun hk => (form3 hform2 hk).2.2) (fun _ y hy => (hvk y (pm9.1 hy).1).num (.inr (pm9.1 hy).2.1)) hk j hfv
       refine ops_calld (first := [.pointer (some ⟨g, 0, none⟩)]) (vs := [Fc.val f2]) (cap := []) hT rfl rfl (pf_six (pf_takeO (pf_cons (pf_cons (pf_cons pf_hereO))) (pf_takeO (pf_cons (pf_cons (pf_cons pf_hereO))) (pf_takeO (pf_cons (pf_cons (pf_cons pf_hereO))) (pf_takeO (pf_cons (pf_cons (pf_cons pf_hereO))) (pf_takeO (pf_cons (pf_cons (pf_cons pf_hereO))) (pf_takeO (pf_cons (pf_cons (pf_cons pf_hereO))) (pf_cons (pf_cons pf_lastB))))))))) (fun v _ h => by exact ⟨h.2.2.2.2.2.1, h.2.2.2.2.1, ⟨h.2.2.2.2.2.2.2.1, h.2.2.2.2.2.2.1, h.2.2.2.2.2.1⟩, trivial⟩) rfl fun ⟨Hs3, hS3⟩ => ?_
       refine ok_perm pf_sixR ?_
       refine ops_nil (fin_next rfl (ok_perm (pf_fB (pf_app (pf_app (pf_app (pf_app (pf_app (pf_app (pf_app pf_here))))))) (pf_fB (pf_app (pf_app (pf_app (pf_app (pf_app (pf_app (pf_app pf_here))))))) (pf_f1 (pf_app (pf_app (pf_app (pf_app (pf_app (pf_app pf_last))))))))) ?_))
       refine run_region (ops_val (yld_arith rfl rfl rfl (wrap64 (by omega) (by omega))) rfl ?_)
       refine ops_val (yld_move rfl) rfl (ops_nil (fin_inv rfl ?_))
       exact ok_again ⟨(j + 1, Hs3), hlfv, by exact hS3⟩ (by dsimp only; omega) ⟨rfl, rfl, rfl, rfl, rfl, rfl, rfl, rfl, rfl, rfl, rfl, rfl, trivial⟩ (pf_takeB pf_here (pf_takeB pf_here (pf_takeB pf_here (pf_takeO pf_hereO (pf_takeO pf_hereO (pf_takeO pf_hereO (pf_takeO pf_hereO (pf_takeO pf_hereO (pf_takeO pf_hereO pf_end))))))))) (fun v _ h => by exact ⟨h.1, h.2.1, h.2.2.1, h.2.2.2.1, h.2.2.2.2.1, h.2.2.2.2.2.1, h.2.2.2.2.2.2.1, h.2.2.2.2.2.2.2.1, h.2.2.2.2.2.2.2.2.1, h.2.2.2.2.2.2.2.2.2.1, h.2.2.2.2.2.2.2.2.2.2.1, h.2.2.2.2.2.2.2.2.2.2.2.1, h.2.2.2.2.2.2.2.2.2.2.2.2.1, trivial⟩)
     ·
      refine ops_val (yld_eq (yld_indexA Tryz.runUnderlying98 Tryz.sizeOf97 rfl rfl (by omega) (by omega)) (show _ = Value.pointer (some ⟨b4, 2, none⟩) from by rw [hk]; rfl)) rfl ?_
      refine ops_val (yld_load 2 Tryz.isAgg97 rfl rfl rfl) rfl ?_
      refine ops_val (yld_lenS Tryz.runUnderlying97 rfl) rfl ?_
      refine ops_val (yld_move rfl) rfl (ops_nil (fin_next rfl (run_block (ok_fr [(0, .slice pad (List.length p) pcap), (3, .pointer (some ⟨b1, 0, none⟩)), (8, .pointer (some ⟨b2, 0, none⟩)), (9, .pointer (some ⟨b3, 0, none⟩)), (12, .pointer (some ⟨b4, 0, none⟩)), (14, .pointer (some ⟨b5, 0, none⟩)), (62, .slice (Cl.fad c) (List.length (Cl.facts c)) (Cl.fcap c)), (63, .int .i64 (List.length (Cl.facts c) : Int)), (64, .int .i64 (k : Int)), (71, .slice (some ⟨r2, 0, none⟩) 4 4), (72, .int .i64 4), (73, .int .i64 ((0 : Nat) : Int))] ⟨rfl, rfl, rfl, rfl, rfl, rfl, rfl, rfl, rfl, rfl, rfl, rfl, trivial⟩ ?_))))
      refine ok_weak (H' := ((b1, .cells #[.slice (Cl.aad c) (List.length (Cl.atoms c)) (Cl.acap c), .slice (Cl.fad c) (List.length (Cl.facts c)) (Cl.fcap c)] 28 (0, 0)) :: ((b4, .cells #[.slice none 0 0, .slice (some ⟨r1, 0, none⟩) 6 6, .slice (some ⟨r2, 0, none⟩) 4 4, .slice (some ⟨r3, 0, none⟩) 2 2] 98 (0, 0)) :: ((b5, .cells #[.int .i64 (Fc.kind f2), str (Fc.a f2), str (Fc.b f2), str (Fc.r f2), .int .i64 (Fc.lo f2), .int .i64 (Fc.hi f2)] 41 (0, 0)) :: (Ha ++ (Hu ++ (Ho ++ (Hi ++ (Hr ++ (Hm ++ Hs)))))))))) (Γ' := [rowF (some ⟨r1, 0, none⟩) (List.flatMap fvC (rlV g 1)), rowF (some ⟨r2, 0, none⟩) (List.flatMap fvC (rlV g 2)), rowF (some ⟨r3, 0, none⟩) (List.flatMap fvC (rlV g 3)), rowF aad (List.flatMap strC (atS p)), mlF Tryz.prog 171 Ky.val Pc.cells pb (pmOf (uniq [] p)) adr, objF g (.cells #[.map (some pb), .slice lad (List.length (loopsOf (uniq [] p))) lcap, .map (some kb), .func (.func 67) #[] #[.pointer (some ⟨b2, 0, none⟩), .pointer (some ⟨b3, 0, none⟩)], .map (some ab), .map (some ub), .map (some ob), .map (some ib), .map (some rb), .map (some sb), .map (some fb)] 94 (0, 0)), objF b3 (.cells #[.map (some nb)] 88 (0, 0)), objF b2 (.cells #[.pointer (some ⟨g, 0, none⟩)] 85 (0, 0)), rowF lad (List.flatMap strC (loopsOf (uniq [] p))), rowF pad (List.flatMap Pc.cells p), tabN, rowF (Cl.aad c) (List.flatMap strC (Cl.atoms c)), rowF (Cl.fad c) (List.flatMap Fc.cells (Cl.facts c))]) (pf_takeB (pf_cons pf_here) (pf_takeB (pf_cons pf_here) (pf_takeB pf_here (pf_takeO pf_hereO (pf_takeO pf_hereO (pf_takeO pf_hereO (pf_takeO pf_hereO (pf_takeO pf_hereO (pf_takeO pf_hereO pf_end))))))))) (fun v _ h => by exact ⟨h.1, h.2.1, h.2.2.1, h.2.2.2.1, h.2.2.2.2.1, h.2.2.2.2.2.1, h.2.2.2.2.2.2.1, h.2.2.2.2.2.2.2.1, h.2.2.2.2.2.2.2.2.1, h.2.2.2.2.2.2.2.2.2.1, h.2.2.2.2.2.2.2.2.2.2.1, h.2.2.2.2.2.2.2.2.2.2.2.1, h.2.2.2.2.2.2.2.2.2.2.2.2.1, trivial⟩) ?_
      refine run_loop (ι := {y : Nat × Hp // y.1 ≤ 4 ∧ ((EN (Cl.facts c) (EngB.mk g pb ab ub ob ib rb sb lad lcap (loopsOf (uniq [] p))) b2 b3 kb fb nb)).St (rls (stpN (Cl.facts c)) (kofN (Cl.facts c)) (pmOf (uniq [] p)) x f2 y.1 (q, fm)).1 (rls (stpN (Cl.facts c)) (kofN (Cl.facts c)) (pmOf (uniq [] p)) x f2 y.1 (q, fm)).2 y.2}) (fun y => [(0, .slice pad (List.length p) pcap), (3, .pointer (some ⟨b1, 0, none⟩)), (8, .pointer (some ⟨b2, 0, none⟩)), (9, .pointer (some ⟨b3, 0, none⟩)), (12, .pointer (some ⟨b4, 0, none⟩)), (14, .pointer (some ⟨b5, 0, none⟩)), (62, .slice (Cl.fad c) (List.length (Cl.facts c)) (Cl.fcap c)), (63, .int .i64 (List.length (Cl.facts c) : Int)), (64, .int .i64 (k : Int)), (71, .slice (some ⟨r2, 0, none⟩) 4 4), (72, .int .i64 4), (73, .int .i64 (y.1.1 : Int))]) (fun y => ((b1, .cells #[.slice (Cl.aad c) (List.length (Cl.atoms c)) (Cl.acap c), .slice (Cl.fad c) (List.length (Cl.facts c)) (Cl.fcap c)] 28 (0, 0)) :: ((b4, .cells #[.slice none 0 0, .slice (some ⟨r1, 0, none⟩) 6 6, .slice (some ⟨r2, 0, none⟩) 4 4, .slice (some ⟨r3, 0, none⟩) 2 2] 98 (0, 0)) :: ((b5, .cells #[.int .i64 (Fc.kind f2), str (Fc.a f2), str (Fc.b f2), str (Fc.r f2), .int .i64 (Fc.lo f2), .int .i64 (Fc.hi f2)] 41 (0, 0)) :: (Ha ++ (Hu ++ (Ho ++ (Hi ++ (Hr ++ (Hm ++ y.1.2)))))))))) (fun y => [rowF (some ⟨r1, 0, none⟩) (List.flatMap fvC (rlV g 1)), rowF (some ⟨r2, 0, none⟩) (List.flatMap fvC (rlV g 2)), rowF (some ⟨r3, 0, none⟩) (List.flatMap fvC (rlV g 3)), rowF aad (List.flatMap strC (atS p)), mlF Tryz.prog 171 Ky.val Pc.cells pb (pmOf (uniq [] p)) adr, objF g (.cells #[.map (some pb), .slice lad (List.length (loopsOf (uniq [] p))) lcap, .map (some kb), .func (.func 67) #[] #[.pointer (some ⟨b2, 0, none⟩), .pointer (some ⟨b3, 0, none⟩)], .map (some ab), .map (some ub), .map (some ob), .map (some ib), .map (some rb), .map (some sb), .map (some fb)] 94 (0, 0)), objF b3 (.cells #[.map (some nb)] 88 (0, 0)), objF b2 (.cells #[.pointer (some ⟨g, 0, none⟩)] 85 (0, 0)), rowF lad (List.flatMap strC (loopsOf (uniq [] p))), rowF pad (List.flatMap Pc.cells p), tabN, rowF (Cl.aad c) (List.flatMap strC (Cl.atoms c)), rowF (Cl.fad c) (List.flatMap Fc.cells (Cl.facts c))]) (fun y => 4 - y.1.1) ⟨((0 : Nat), Hs), by omega, by exact hS⟩ ?_
      rintro ⟨⟨j, Hs⟩, hj, hS2⟩
      dsimp only at hj hS2 ⊢
      refine ok_fr [(0, .slice pad (List.length p) pcap), (3, .pointer (some ⟨b1, 0, none⟩)), (8, .pointer (some ⟨b2, 0, none⟩)), (9, .pointer (some ⟨b3, 0, none⟩)), (12, .pointer (some ⟨b4, 0, none⟩)), (14, .pointer (some ⟨b5, 0, none⟩)), (62, .slice (Cl.fad c) (List.length (Cl.facts c)) (Cl.fcap c)), (63, .int .i64 (List.length (Cl.facts c) : Int)), (64, .int .i64 (k : Int)), (71, .slice (some ⟨r2, 0, none⟩) 4 4), (72, .int .i64 4), (73, .int .i64 (j : Int))] ⟨rfl, rfl, rfl, rfl, rfl, rfl, rfl, rfl, rfl, rfl, rfl, rfl, trivial⟩ ?_
      refine run_seq (run_region (ops_valB (yld_lss rfl rfl) rfl fun r6 hr6 => ?_))
      refine ops_nil (fin_next rfl (run_seq ?_))
      cases r6
      ·
       replace hr6 := of_decide_eq_false hr6
       have ej : j = 4 := by omega
       rw [ej] at hS2
       refine run_cond_f rfl (run_exit rfl (fin_next rfl (run_region (ops_val (yld_arith rfl rfl rfl (wrap64 (by omega) (by omega))) rfl ?_))))
       refine ops_val (yld_move rfl) rfl (ops_nil (fin_inv rfl ?_))
       exact ok_again ⟨(k + 1, (rls (stpN (Cl.facts c)) (kofN (Cl.facts c)) (pmOf (uniq [] p)) x f2 4 (q, fm)).1, (rls (stpN (Cl.facts c)) (kofN (Cl.facts c)) (pmOf (uniq [] p)) x f2 4 (q, fm)).2, Hs), hlf2, (invN_step hvk hxo hform hN hf2 (by have e : nrl f2 = 4 := (by unfold nrl; simp [hk]); rw [e])), by exact (by exact hS2)⟩ (by dsimp only; omega) ⟨rfl, rfl, rfl, rfl, rfl, rfl, rfl, rfl, trivial⟩ (pf_takeB pf_here (pf_takeB pf_here (pf_takeO (pf_cons pf_hereO) (pf_takeO (pf_cons pf_hereO) (pf_takeO (pf_cons pf_hereO) (pf_takeO (pf_cons pf_hereO) (pf_takeO (pf_cons pf_hereO) (pf_takeO (pf_cons pf_hereO) pf_lastB)))))))) (fun v _ h => by exact ⟨h.1, h.2.1, h.2.2.1, h.2.2.2.1, h.2.2.2.2.1, h.2.2.2.2.2.1, h.2.2.2.2.2.2.1, h.2.2.2.2.2.2.2.1, h.2.2.2.2.2.2.2.2.1, h.2.2.2.2.2.2.2.2.2.1, h.2.2.2.2.2.2.2.2.2.2.1, h.2.2.2.2.2.2.2.2.2.2.2.1, h.2.2.2.2.2.2.2.2.2.2.2.2.1, trivial⟩)
      ·
       replace hr6 := of_decide_eq_true hr6
       have hlfv : j < List.length (rlV g 2) := by show j < 4; omega
       obtain ⟨fv, hfv⟩ : ∃ e0, (rlV g 2)[j]? = some e0 := ⟨_, List.getElem?_eq_getElem hlfv⟩
       have hmfv : fv ∈ (rlV g 2) := List.mem_of_getElem? hfv
       refine run_cond_t rfl (run_skip (fin_next rfl (run_seq (run_block (run_seq (run_region (ops_val (yld_indexR Tryz.runUnderlying97 Tryz.sizeOf89 rfl rfl (fun v _ h => row_adr (n := 1) fvC_len (by decide) (by exact h.2.1) hfv) (by omega) (by omega)) rfl ?_)))))))
       refine ops_val (yld_loadR (ad := (some ⟨r2, 0, none⟩)) Tryz.isAgg89 rfl (fun v _ h => by exact h.2.1) (row_cells fvC_len hfv 0 _ rfl)) rfl ?_
       refine ops_val (yld_assign rfl) rfl (ops_nil (fin_next rfl (run_region (ops_val (yld_move rfl) rfl (ops_val (yld_loadS 2 Tryz.isAgg41 Tryz.sizeOf41 rfl rfl rfl) rfl ?_)))))
       obtain ⟨nr, rfl, hT⟩ := rule2_c (EngB.mk g pb ab ub ob ib rb sb lad lcap (loopsOf (uniq [] p))) (EN (Cl.facts c) (EngB.mk g pb ab ub ob ib rb sb lad lcap (loopsOf (uniq [] p))) b2 b3 kb fb nb) (EngA.mk adr (fun _ => (none, 0)) (fun _ => (none, 0)) (fun _ => (none, 0)) (fun _ => (none, 0)) (fun _ => (none, 0)) (fun _ => (none, 0))) (pmOf (uniq [] p)) x f2 (rls (stpN (Cl.facts c)) (kofN (Cl.facts c)) (pmOf (uniq [] p)) x f2 j (q, fm)).1 (rls (stpN (Cl.facts c)) (kofN (Cl.facts c)) (pmOf (uniq [] p)) x f2 j (q, fm)).2 Hs hS2 Ha Hu Ho Hi Hr Hm hI hpl hxl hyl (fun hk => (form3 hform2 hk).2.2) (fun _ y hy => (hvk y (pm9.1 hy).1).num (.inr (pm9.1 hy).2.1)) hk j hfv
       refine ops_calld (first := [.pointer (some ⟨g, 0, none⟩)]) (vs := [Fc.val f2]) (cap := []) hT rfl rfl (pf_six (pf_takeO (pf_cons (pf_cons (pf_cons pf_hereO))) (pf_takeO (pf_cons (pf_cons (pf_cons pf_hereO))) (pf_takeO (pf_cons (pf_cons (pf_cons pf_hereO))) (pf_takeO (pf_cons (pf_cons (pf_cons pf_hereO))) (pf_takeO (pf_cons (pf_cons (pf_cons pf_hereO))) (pf_takeO (pf_cons (pf_cons (pf_cons pf_hereO))) (pf_cons (pf_cons pf_lastB))))))))) (fun v _ h => by exact ⟨h.2.2.2.2.2.1, h.2.2.2.2.1, ⟨h.2.2.2.2.2.2.2.1, h.2.2.2.2.2.2.1, h.2.2.2.2.2.1⟩, trivial⟩) rfl fun ⟨Hs3, hS3⟩ => ?_
       refine ok_perm pf_sixR ?_
       refine ops_nil (fin_next rfl (ok_perm (pf_fB (pf_app (pf_app (pf_app (pf_app (pf_app (pf_app (pf_app pf_here))))))) (pf_fB (pf_app (pf_app (pf_app (pf_app (pf_app (pf_app (pf_app pf_here))))))) (pf_f1 (pf_app (pf_app (pf_app (pf_app (pf_app (pf_app pf_last))))))))) ?_))
       refine run_region (ops_val (yld_arith rfl rfl rfl (wrap64 (by omega) (by omega))) rfl ?_)
       refine ops_val (yld_move rfl) rfl (ops_nil (fin_inv rfl ?_))
       exact ok_again ⟨(j + 1, Hs3), hlfv, by exact hS3⟩ (by dsimp only; omega) ⟨rfl, rfl, rfl, rfl, rfl, rfl, rfl, rfl, rfl, rfl, rfl, rfl, trivial⟩ (pf_takeB pf_here (pf_takeB pf_here (pf_takeB pf_here (pf_takeO pf_hereO (pf_takeO pf_hereO (pf_takeO pf_hereO (pf_takeO pf_hereO (pf_takeO pf_hereO (pf_takeO pf_hereO pf_end))))))))) (fun v _ h => by exact ⟨h.1, h.2.1, h.2.2.1, h.2.2.2.1, h.2.2.2.2.1, h.2.2.2.2.2.1, h.2.2.2.2.2.2.1, h.2.2.2.2.2.2.2.1, h.2.2.2.2.2.2.2.2.1, h.2.2.2.2.2.2.2.2.2.1, h.2.2.2.2.2.2.2.2.2.2.1, h.2.2.2.2.2.2.2.2.2.2.2.1, h.2.2.2.2.2.2.2.2.2.2.2.2.1, trivial⟩)
     ·
      refine ops_val (yld_eq (yld_indexA Tryz.runUnderlying98 Tryz.sizeOf97 rfl rfl (by omega) (by omega)) (show _ = Value.pointer (some ⟨b4, 3, none⟩) from by rw [hk]; rfl)) rfl ?_
      refine ops_val (yld_load 2 Tryz.isAgg97 rfl rfl rfl) rfl ?_
      refine ops_val (yld_lenS Tryz.runUnderlying97 rfl) rfl ?_
      refine ops_val (yld_move rfl) rfl (ops_nil (fin_next rfl (run_block (ok_fr [(0, .slice pad (List.length p) pcap), (3, .pointer (some ⟨b1, 0, none⟩)), (8, .pointer (some ⟨b2, 0, none⟩)), (9, .pointer (some ⟨b3, 0, none⟩)), (12, .pointer (some ⟨b4, 0, none⟩)), (14, .pointer (some ⟨b5, 0, none⟩)), (62, .slice (Cl.fad c) (List.length (Cl.facts c)) (Cl.fcap c)), (63, .int .i64 (List.length (Cl.facts c) : Int)), (64, .int .i64 (k : Int)), (71, .slice (some ⟨r3, 0, none⟩) 2 2), (72, .int .i64 2), (73, .int .i64 ((0 : Nat) : Int))] ⟨rfl, rfl, rfl, rfl, rfl, rfl, rfl, rfl, rfl, rfl, rfl, rfl, trivial⟩ ?_))))
      refine ok_weak (H' := ((b1, .cells #[.slice (Cl.aad c) (List.length (Cl.atoms c)) (Cl.acap c), .slice (Cl.fad c) (List.length (Cl.facts c)) (Cl.fcap c)] 28 (0, 0)) :: ((b4, .cells #[.slice none 0 0, .slice (some ⟨r1, 0, none⟩) 6 6, .slice (some ⟨r2, 0, none⟩) 4 4, .slice (some ⟨r3, 0, none⟩) 2 2] 98 (0, 0)) :: ((b5, .cells #[.int .i64 (Fc.kind f2), str (Fc.a f2), str (Fc.b f2), str (Fc.r f2), .int .i64 (Fc.lo f2), .int .i64 (Fc.hi f2)] 41 (0, 0)) :: (Ha ++ (Hu ++ (Ho ++ (Hi ++ (Hr ++ (Hm ++ Hs)))))))))) (Γ' := [rowF (some ⟨r1, 0, none⟩) (List.flatMap fvC (rlV g 1)), rowF (some ⟨r2, 0, none⟩) (List.flatMap fvC (rlV g 2)), rowF (some ⟨r3, 0, none⟩) (List.flatMap fvC (rlV g 3)), rowF aad (List.flatMap strC (atS p)), mlF Tryz.prog 171 Ky.val Pc.cells pb (pmOf (uniq [] p)) adr, objF g (.cells #[.map (some pb), .slice lad (List.length (loopsOf (uniq [] p))) lcap, .map (some kb), .func (.func 67) #[] #[.pointer (some ⟨b2, 0, none⟩), .pointer (some ⟨b3, 0, none⟩)], .map (some ab), .map (some ub), .map (some ob), .map (some ib), .map (some rb), .map (some sb), .map (some fb)] 94 (0, 0)), objF b3 (.cells #[.map (some nb)] 88 (0, 0)), objF b2 (.cells #[.pointer (some ⟨g, 0, none⟩)] 85 (0, 0)), rowF lad (List.flatMap strC (loopsOf (uniq [] p))), rowF pad (List.flatMap Pc.cells p), tabN, rowF (Cl.aad c) (List.flatMap strC (Cl.atoms c)), rowF (Cl.fad c) (List.flatMap Fc.cells (Cl.facts c))]) (pf_takeB (pf_cons pf_here) (pf_takeB (pf_cons pf_here) (pf_takeB pf_here (pf_takeO pf_hereO (pf_takeO pf_hereO (pf_takeO pf_hereO (pf_takeO pf_hereO (pf_takeO pf_hereO (pf_takeO pf_hereO pf_end))))))))) (fun v _ h => by exact ⟨h.1, h.2.1, h.2.2.1, h.2.2.2.1, h.2.2.2.2.1, h.2.2.2.2.2.1, h.2.2.2.2.2.2.1, h.2.2.2.2.2.2.2.1, h.2.2.2.2.2.2.2.2.1, h.2.2.2.2.2.2.2.2.2.1, h.2.2.2.2.2.2.2.2.2.2.1, h.2.2.2.2.2.2.2.2.2.2.2.1, h.2.2.2.2.2.2.2.2.2.2.2.2.1, trivial⟩) ?_
      refine run_loop (ι := {y : Nat × Hp // y.1 ≤ 2 ∧ ((EN (Cl.facts c) (EngB.mk g pb ab ub ob ib rb sb lad lcap (loopsOf (uniq [] p))) b2 b3 kb fb nb)).St (rls (stpN (Cl.facts c)) (kofN (Cl.facts c)) (pmOf (uniq [] p)) x f2 y.1 (q, fm)).1 (rls (stpN (Cl.facts c)) (kofN (Cl.facts c)) (pmOf (uniq [] p)) x f2 y.1 (q, fm)).2 y.2}) (fun y => [(0, .slice pad (List.length p) pcap), (3, .pointer (some ⟨b1, 0, none⟩)), (8, .pointer (some ⟨b2, 0, none⟩)), (9, .pointer (some ⟨b3, 0, none⟩)), (12, .pointer (some ⟨b4, 0, none⟩)), (14, .pointer (some ⟨b5, 0, none⟩)), (62, .slice (Cl.fad c) (List.length (Cl.facts c)) (Cl.fcap c)), (63, .int .i64 (List.length (Cl.facts c) : Int)), (64, .int .i64 (k : Int)), (71, .slice (some ⟨r3, 0, none⟩) 2 2), (72, .int .i64 2), (73, .int .i64 (y.1.1 : Int))]) (fun y => ((b1, .cells #[.slice (Cl.aad c) (List.length (Cl.atoms c)) (Cl.acap c), .slice (Cl.fad c) (List.length (Cl.facts c)) (Cl.fcap c)] 28 (0, 0)) :: ((b4, .cells #[.slice none 0 0, .slice (some ⟨r1, 0, none⟩) 6 6, .slice (some ⟨r2, 0, none⟩) 4 4, .slice (some ⟨r3, 0, none⟩) 2 2] 98 (0, 0)) :: ((b5, .cells #[.int .i64 (Fc.kind f2), str (Fc.a f2), str (Fc.b f2), str (Fc.r f2), .int .i64 (Fc.lo f2), .int .i64 (Fc.hi f2)] 41 (0, 0)) :: (Ha ++ (Hu ++ (Ho ++ (Hi ++ (Hr ++ (Hm ++ y.1.2)))))))))) (fun y => [rowF (some ⟨r1, 0, none⟩) (List.flatMap fvC (rlV g 1)), rowF (some ⟨r2, 0, none⟩) (List.flatMap fvC (rlV g 2)), rowF (some ⟨r3, 0, none⟩) (List.flatMap fvC (rlV g 3)), rowF aad (List.flatMap strC (atS p)), mlF Tryz.prog 171 Ky.val Pc.cells pb (pmOf (uniq [] p)) adr, objF g (.cells #[.map (some pb), .slice lad (List.length (loopsOf (uniq [] p))) lcap, .map (some kb), .func (.func 67) #[] #[.pointer (some ⟨b2, 0, none⟩), .pointer (some ⟨b3, 0, none⟩)], .map (some ab), .map (some ub), .map (some ob), .map (some ib), .map (some rb), .map (some sb), .map (some fb)] 94 (0, 0)), objF b3 (.cells #[.map (some nb)] 88 (0, 0)), objF b2 (.cells #[.pointer (some ⟨g, 0, none⟩)] 85 (0, 0)), rowF lad (List.flatMap strC (loopsOf (uniq [] p))), rowF pad (List.flatMap Pc.cells p), tabN, rowF (Cl.aad c) (List.flatMap strC (Cl.atoms c)), rowF (Cl.fad c) (List.flatMap Fc.cells (Cl.facts c))]) (fun y => 2 - y.1.1) ⟨((0 : Nat), Hs), by omega, by exact hS⟩ ?_
      rintro ⟨⟨j, Hs⟩, hj, hS2⟩
      dsimp only at hj hS2 ⊢
      refine ok_fr [(0, .slice pad (List.length p) pcap), (3, .pointer (some ⟨b1, 0, none⟩)), (8, .pointer (some ⟨b2, 0, none⟩)), (9, .pointer (some ⟨b3, 0, none⟩)), (12, .pointer (some ⟨b4, 0, none⟩)), (14, .pointer (some ⟨b5, 0, none⟩)), (62, .slice (Cl.fad c) (List.length (Cl.facts c)) (Cl.fcap c)), (63, .int .i64 (List.length (Cl.facts c) : Int)), (64, .int .i64 (k : Int)), (71, .slice (some ⟨r3, 0, none⟩) 2 2), (72, .int .i64 2), (73, .int .i64 (j : Int))] ⟨rfl, rfl, rfl, rfl, rfl, rfl, rfl, rfl, rfl, rfl, rfl, rfl, trivial⟩ ?_
      refine run_seq (run_region (ops_valB (yld_lss rfl rfl) rfl fun r7 hr7 => ?_))
      refine ops_nil (fin_next rfl (run_seq ?_))
      cases r7
      ·
       replace hr7 := of_decide_eq_false hr7
       have ej : j = 2 := by omega
       rw [ej] at hS2
       refine run_cond_f rfl (run_exit rfl (fin_next rfl (run_region (ops_val (yld_arith rfl rfl rfl (wrap64 (by omega) (by omega))) rfl ?_))))
       refine ops_val (yld_move rfl) rfl (ops_nil (fin_inv rfl ?_))
       exact ok_again ⟨(k + 1, (rls (stpN (Cl.facts c)) (kofN (Cl.facts c)) (pmOf (uniq [] p)) x f2 2 (q, fm)).1, (rls (stpN (Cl.facts c)) (kofN (Cl.facts c)) (pmOf (uniq [] p)) x f2 2 (q, fm)).2, Hs), hlf2, (invN_step hvk hxo hform hN hf2 (by have e : nrl f2 = 2 := (by unfold nrl; simp [hk]); rw [e])), by exact (by exact hS2)⟩ (by dsimp only; omega) ⟨rfl, rfl, rfl, rfl, rfl, rfl, rfl, rfl, trivial⟩ (pf_takeB pf_here (pf_takeB pf_here (pf_takeO (pf_cons pf_hereO) (pf_takeO (pf_cons pf_hereO) (pf_takeO (pf_cons pf_hereO) (pf_takeO (pf_cons pf_hereO) (pf_takeO (pf_cons pf_hereO) (pf_takeO (pf_cons pf_hereO) pf_lastB)))))))) (fun v _ h => by exact ⟨h.1, h.2.1, h.2.2.1, h.2.2.2.1, h.2.2.2.2.1, h.2.2.2.2.2.1, h.2.2.2.2.2.2.1, h.2.2.2.2.2.2.2.1, h.2.2.2.2.2.2.2.2.1, h.2.2.2.2.2.2.2.2.2.1, h.2.2.2.2.2.2.2.2.2.2.1, h.2.2.2.2.2.2.2.2.2.2.2.1, h.2.2.2.2.2.2.2.2.2.2.2.2.1, trivial⟩)
      ·
       replace hr7 := of_decide_eq_true hr7
       have hlfv : j < List.length (rlV g 3) := by show j < 2; omega
       obtain ⟨fv, hfv⟩ : ∃ e0, (rlV g 3)[j]? = some e0 := ⟨_, List.getElem?_eq_getElem hlfv⟩
       have hmfv : fv ∈ (rlV g 3) := List.mem_of_getElem? hfv
       refine run_cond_t rfl (run_skip (fin_next rfl (run_seq (run_block (run_seq (run_region (ops_val (yld_indexR Tryz.runUnderlying97 Tryz.sizeOf89 rfl rfl (fun v _ h => row_adr (n := 1) fvC_len (by decide) (by exact h.2.2.1) hfv) (by omega) (by omega)) rfl ?_)))))))
       refine ops_val (yld_loadR (ad := (some ⟨r3, 0, none⟩)) Tryz.isAgg89 rfl (fun v _ h => by exact h.2.2.1) (row_cells fvC_len hfv 0 _ rfl)) rfl ?_
       refine ops_val (yld_assign rfl) rfl (ops_nil (fin_next rfl (run_region (ops_val (yld_move rfl) rfl (ops_val (yld_loadS 2 Tryz.isAgg41 Tryz.sizeOf41 rfl rfl rfl) rfl ?_)))))
       obtain ⟨nr, rfl, hT⟩ := rule3_c (EngB.mk g pb ab ub ob ib rb sb lad lcap (loopsOf (uniq [] p))) (EN (Cl.facts c) (EngB.mk g pb ab ub ob ib rb sb lad lcap (loopsOf (uniq [] p))) b2 b3 kb fb nb) (EngA.mk adr (fun _ => (none, 0)) (fun _ => (none, 0)) (fun _ => (none, 0)) (fun _ => (none, 0)) (fun _ => (none, 0)) (fun _ => (none, 0))) (pmOf (uniq [] p)) x f2 (rls (stpN (Cl.facts c)) (kofN (Cl.facts c)) (pmOf (uniq [] p)) x f2 j (q, fm)).1 (rls (stpN (Cl.facts c)) (kofN (Cl.facts c)) (pmOf (uniq [] p)) x f2 j (q, fm)).2 Hs hS2 Ha Hu Ho Hi Hr Hm hI hpl hxl hyl (fun hk => (form3 hform2 hk).2.2) (fun _ y hy => (hvk y (pm9.1 hy).1).num (.inr (pm9.1 hy).2.1)) hk j hfv
       refine ops_calld (first := [.pointer (some ⟨g, 0, none⟩)]) (vs := [Fc.val f2]) (cap := []) hT rfl rfl (pf_six (pf_takeO (pf_cons (pf_cons (pf_cons pf_hereO))) (pf_takeO (pf_cons (pf_cons (pf_cons pf_hereO))) (pf_takeO (pf_cons (pf_cons (pf_cons pf_hereO))) (pf_takeO (pf_cons (pf_cons (pf_cons pf_hereO))) (pf_takeO (pf_cons (pf_cons (pf_cons pf_hereO))) (pf_takeO (pf_cons (pf_cons (pf_cons pf_hereO))) (pf_cons (pf_cons pf_lastB))))))))) (fun v _ h => by exact ⟨h.2.2.2.2.2.1, h.2.2.2.2.1, ⟨h.2.2.2.2.2.2.2.1, h.2.2.2.2.2.2.1, h.2.2.2.2.2.1⟩, trivial⟩) rfl fun ⟨Hs3, hS3⟩ => ?_
       refine ok_perm pf_sixR ?_
       refine ops_nil (fin_next rfl (ok_perm (pf_fB (pf_app (pf_app (pf_app (pf_app (pf_app (pf_app (pf_app pf_here))))))) (pf_fB (pf_app (pf_app (pf_app (pf_app (pf_app (pf_app (pf_app pf_here))))))) (pf_f1 (pf_app (pf_app (pf_app (pf_app (pf_app (pf_app pf_last))))))))) ?_))
       refine run_region (ops_val (yld_arith rfl rfl rfl (wrap64 (by omega) (by omega))) rfl ?_)
       refine ops_val (yld_move rfl) rfl (ops_nil (fin_inv rfl ?_))
       exact ok_again ⟨(j + 1, Hs3), hlfv, by exact hS3⟩ (by dsimp only; omega) ⟨rfl, rfl, rfl, rfl, rfl, rfl, rfl, rfl, rfl, rfl, rfl, rfl, trivial⟩ (pf_takeB pf_here (pf_takeB pf_here (pf_takeB pf_here (pf_takeO pf_hereO (pf_takeO pf_hereO (pf_takeO pf_hereO (pf_takeO pf_hereO (pf_takeO pf_hereO (pf_takeO pf_hereO pf_end))))))))) (fun v _ h => by exact ⟨h.1, h.2.1, h.2.2.1, h.2.2.2.1, h.2.2.2.2.1, h.2.2.2.2.2.1, h.2.2.2.2.2.2.1, h.2.2.2.2.2.2.2.1, h.2.2.2.2.2.2.2.2.1, h.2.2.2.2.2.2.2.2.2.1, h.2.2.2.2.2.2.2.2.2.2.1, h.2.2.2.2.2.2.2.2.2.2.2.1, h.2.2.2.2.2.2.2.2.2.2.2.2.1, trivial⟩)
   ·
    replace hr3 := of_decide_eq_true hr3
    have hlf : i < List.length (Cl.facts c) := by omega
    obtain ⟨f, hf⟩ : ∃ e0, (Cl.facts c)[i]? = some e0 := ⟨_, List.getElem?_eq_getElem hlf⟩
    have hmf : f ∈ (Cl.facts c) := List.mem_of_getElem? hf
    refine run_cond_t rfl (run_skip (fin_next rfl (run_seq (run_block (run_seq (run_region (ops_val (yld_indexR Tryz.runUnderlying26 Tryz.sizeOf41 rfl rfl (fun v _ h => row_adr (n := 6) Fc.cells_len (by decide) (by exact h.2.2.2.2.2.2.2.2.1) hf) (by omega) (by first | omega | (simp; done))) rfl ?_)))))))
    refine ops_val (yld_loadRS (ad := (Cl.fad c)) (us := Fc.cells f) Tryz.isAgg41 Tryz.sizeOf41 rfl (fun v _ h => by exact h.2.2.2.2.2.2.2.2.1) (Fc.cells_len _) (row_cells Fc.cells_len hf)) rfl ?_
    refine ops_alloc Tryz.zeroValue41 rfl fun b6 => ?_
    refine ops_store 0 Tryz.sizeOf41 rfl rfl rfl rfl rfl rfl ?_
    refine ops_nil (fin_next rfl (run_seq ?_))
    refine run_drawH ((b6, .cells #[.int .i64 (Fc.kind f), str (Fc.a f), str (Fc.b f), str (Fc.r f), .int .i64 (Fc.lo f), .int .i64 (Fc.hi f)] 41 (0, 0)) :: ((b1, .cells #[.slice (Cl.aad c) (List.length (Cl.atoms c)) (Cl.acap c), .slice (Cl.fad c) (List.length (Cl.facts c)) (Cl.fcap c)] 28 (0, 0)) :: ((nb, .map #[] 0) :: (Ha ++ (Hu ++ (Ho ++ (Hi ++ (Hr ++ Hm)))))))) (by kernel_rfl) ?_
    refine any_sq 1 [0, 1, 2, 3, 4] (by kernel_rfl) (fun _ a b => ⟨Vw.sat.sub (a.perm (pf_takeB pf_here (pf_takeB pf_here (pf_takeB pf_here (pf_takeO (pf_cons (pf_cons pf_hereO)) (pf_takeO (pf_cons (pf_cons pf_hereO)) (pf_takeO (pf_cons (pf_cons pf_hereO)) (pf_takeO (pf_cons (pf_cons pf_hereO)) (pf_takeO (pf_cons (pf_cons pf_hereO)) (pf_cons pf_lastB)))))))))), b⟩) ?_
    refine sq_val rfl (yld_loadO Tryz.isAgg85 rfl (fun v _ h => by exact h.2.2.2.1) rfl) rfl ?_
    refine sq_val rfl (yld_nilck rfl) rfl ?_
    refine sq_val rfl (yld_field Tryz.runUnderlying94 rfl rfl rfl Tryz.sizeOf88) rfl ?_
    refine sq_val rfl (yld_loadO Tryz.isAgg88 rfl (fun v _ h => by exact h.2.1) rfl) rfl ?_
    refine sq_val rfl (yld_loadS 0 Tryz.isAgg41 Tryz.sizeOf41 rfl rfl rfl) rfl ?_
    refine sq_nil ?_
    refine any_one 5 rfl (by kernel_rfl) ?_
    refine ops_join (k := f) 3 keyFc (.inr rfl) Tryz.runUnderlying88 rfl rfl rfl rfl hK fun ej1 cj1 hj1 => ?_
    refine ops_nil (fin_inv rfl (any_next (fun _ a b => ⟨Vw.sat.sub (a.perm (pf_takeB pf_here (pf_takeB pf_here (pf_takeB pf_here (pf_takeO (pf_cons (pf_cons pf_hereO)) (pf_takeO (pf_cons (pf_cons pf_hereO)) (pf_takeO (pf_cons (pf_cons pf_hereO)) (pf_takeO (pf_cons (pf_cons pf_hereO)) (pf_takeO (pf_cons (pf_cons pf_hereO)) (pf_cons pf_lastB)))))))))), b⟩) ?_))
    refine any_done (by kernel_rfl) ?_
    refine fin_next rfl (run_seq ?_)
    refine run_drawH ((b6, .cells #[.int .i64 (Fc.kind f), str (Fc.a f), str (Fc.b f), str (Fc.r f), .int .i64 (Fc.lo f), .int .i64 (Fc.hi f)] 41 (0, 0)) :: ((b1, .cells #[.slice (Cl.aad c) (List.length (Cl.atoms c)) (Cl.acap c), .slice (Cl.fad c) (List.length (Cl.facts c)) (Cl.fcap c)] 28 (0, 0)) :: ((nb, .map #[] 0) :: (Ha ++ (Hu ++ (Ho ++ (Hi ++ (Hr ++ Hm)))))))) (by kernel_rfl) ?_
    refine any_sq 1 [0, 1, 2, 3, 4] (by kernel_rfl) (fun _ a b => ⟨Vw.sat.sub (a.perm (pf_takeB pf_here (pf_takeB pf_here (pf_takeB pf_here (pf_takeO (pf_cons (pf_cons pf_hereO)) (pf_takeO (pf_cons (pf_cons pf_hereO)) (pf_takeO (pf_cons (pf_cons pf_hereO)) (pf_takeO (pf_cons (pf_cons pf_hereO)) (pf_takeO (pf_cons (pf_cons pf_hereO)) (pf_cons pf_lastB)))))))))), b⟩) ?_
    refine sq_val rfl (yld_loadO Tryz.isAgg85 rfl (fun v _ h => by exact h.2.2.2.1) rfl) rfl ?_
    refine sq_val rfl (yld_nilck rfl) rfl ?_
    refine sq_val rfl (yld_field Tryz.runUnderlying94 rfl rfl rfl Tryz.sizeOf88) rfl ?_
    refine sq_val rfl (yld_loadO Tryz.isAgg88 rfl (fun v _ h => by exact h.2.1) rfl) rfl ?_
    refine sq_val rfl (yld_loadS 0 Tryz.isAgg41 Tryz.sizeOf41 rfl rfl rfl) rfl ?_
    refine sq_nil ?_
    refine any_one 5 rfl (by kernel_rfl) ?_
    refine ops_join (k := f) 4 keyFc (.inr rfl) Tryz.runUnderlying88 rfl rfl rfl rfl hF fun ej2 cj2 hj2 => ?_
    refine ops_nil (fin_inv rfl (any_next (fun _ a b => ⟨Vw.sat.sub (a.perm (pf_takeB pf_here (pf_takeB pf_here (pf_takeB pf_here (pf_takeO (pf_cons (pf_cons pf_hereO)) (pf_takeO (pf_cons (pf_cons pf_hereO)) (pf_takeO (pf_cons (pf_cons pf_hereO)) (pf_takeO (pf_cons (pf_cons pf_hereO)) (pf_takeO (pf_cons (pf_cons pf_hereO)) (pf_cons pf_lastB)))))))))), b⟩) ?_))
    refine any_done (by kernel_rfl) ?_
    refine fin_next rfl ?_
    have hK1 := (take_new hnd hf) ▸ hj1
    have hF1 := (take_new hnd hf) ▸ hj2
    refine run_region (ops_val (yld_loadO Tryz.isAgg85 rfl (fun v _ h => by exact h.2.2.2.1) rfl) rfl ?_)
    refine ops_val (yld_loadS 0 Tryz.isAgg41 Tryz.sizeOf41 rfl rfl rfl) rfl ?_
    refine ops_call (index_c (EngB.mk g pb ab ub ob ib rb sb lad lcap (loopsOf (uniq [] p))) (EN (List.take (i + 1) (Cl.facts c)) (EngB.mk g pb ab ub ob ib rb sb lad lcap (loopsOf (uniq [] p))) b2 b3 kb fb nb) x f [] (List.take (i + 1) (Cl.facts c)) [(nb, .map #[] 0), (kb, .map ej1 cj1), (fb, .map ej2 cj2)] ⟨ej1, cj1, ej2, cj2, (List.take (i + 1) (Cl.facts c)), #[], 0, rfl, SetE.nil, hK1, hF1, fun _ => Iff.rfl, Born.nil 0⟩ Ha Hu Ho Hi Hr Hm hI hxl hyl) rfl (pf_takeO (pf_cons (pf_cons (pf_cons (pf_cons (pf_cons pf_hereO))))) (pf_takeO (pf_cons (pf_cons (pf_cons (pf_cons (pf_cons pf_hereO))))) (pf_takeO (pf_cons (pf_cons (pf_cons (pf_cons (pf_cons pf_hereO))))) (pf_takeO (pf_cons (pf_cons (pf_cons (pf_cons (pf_cons pf_hereO))))) (pf_takeO (pf_cons (pf_cons (pf_cons (pf_cons (pf_cons pf_hereO))))) (pf_takeO (pf_cons (pf_cons (pf_cons (pf_cons pf_lastB)))) (pf_takeB (pf_cons (pf_cons pf_here)) (pf_takeB (pf_cons (pf_cons pf_here)) (pf_cons (pf_cons pf_here)))))))))) (fun v _ h => by exact ⟨h.2.1, trivial⟩) rfl fun ⟨⟨Ha1, Hu1, Ho1, Hi1, Hr1, Hm1⟩, hI1⟩ => ?_
    dsimp only
    refine ok_perm pf_sixT ?_
    refine ops_nil (fin_next rfl (ok_perm (pf_fB (pf_app (pf_app (pf_app (pf_app (pf_app (pf_app pf_here)))))) (pf_fB (pf_app (pf_app (pf_app (pf_app (pf_app (pf_app pf_here)))))) (pf_fB (pf_app (pf_app (pf_app (pf_app (pf_app (pf_app pf_here)))))) (pf_fB (pf_app (pf_app (pf_app (pf_app (pf_app (pf_app pf_here)))))) (pf_f1 (pf_app (pf_app (pf_app (pf_app (pf_app pf_last)))))))))) ?_))
    refine run_region (ops_val (yld_arith rfl rfl rfl (wrap64 (by omega) (by omega))) rfl ?_)
    refine ops_val (yld_move rfl) rfl (ops_nil (fin_inv rfl ?_))
    exact ok_again ⟨(i + 1, (Ix.add x (decide (f ∈ (List.take (i + 1) (Cl.facts c)))) f), ej1, cj1, ej2, cj2, Ha1, Hu1, Ho1, Hi1, Hr1, Hm1), hlf, hK1, hF1, hI1, (ixSz_add hz _ f), ix_next hxo hf⟩ (by dsimp only; omega) ⟨rfl, rfl, rfl, rfl, rfl, rfl, rfl, trivial⟩ (pf_takeB (pf_cons (pf_cons (pf_cons (pf_cons pf_here)))) (pf_takeB pf_here (pf_takeB pf_here (pf_takeB pf_here (pf_takeO (pf_cons pf_hereO) (pf_takeO (pf_cons pf_hereO) (pf_takeO (pf_cons pf_hereO) (pf_takeO (pf_cons pf_hereO) (pf_takeO (pf_cons pf_hereO) pf_lastB))))))))) (fun v _ h => by exact ⟨h.1, h.2.1, h.2.2.1, h.2.2.2.1, h.2.2.2.2.1, h.2.2.2.2.2.1, h.2.2.2.2.2.2.1, h.2.2.2.2.2.2.2.1, h.2.2.2.2.2.2.2.2.1, trivial⟩)
  ·
   replace hr2 := ne_of_bne hr2
   refine run_cond_t rfl (run_seq (run_region (ops_val (yld_move rfl) rfl (ops_val (yld_assign rfl) rfl (ops_val (yld_assign rfl) rfl (ops_nil (fin_next rfl ?_)))))))
   refine run_ret ?_
   exact ret2 Tryz.results22 ⟨(none, 0, [], (checkC (Cl.atoms c) (Cl.facts c))), ⟨Nat.le_refl _, by simp, fun _ => rfl⟩, nextR_c (by assumption) (by assumption)⟩ rfl rfl rfl pf_nil (fun v _ h => by exact ⟨.inl rfl, trivial⟩)
 ·
  replace hr1 := ne_of_bne hr1
  refine run_cond_t rfl (run_seq (run_region (ops_val (yld_move rfl) rfl (ops_val (yld_assign rfl) rfl (ops_val (yld_assign rfl) rfl (ops_nil (fin_next rfl ?_)))))))
  refine run_ret ?_
  exact ret2 Tryz.results22 ⟨(none, 0, [], (checkP p)), ⟨Nat.le_refl _, by simp, fun _ => rfl⟩, nextR_p (by assumption)⟩ rfl rfl rfl pf_nil (fun v _ h => by exact ⟨.inl rfl, trivial⟩)
end Go.Proofs.YtpdbbglpbngeiaaGreatDoor
namespace Go.Proofs.YtpdbbglpbngeiaaGreatDoor
open Go Go.Sx Go.Proofs
set_option linter.unusedVariables false
attribute [local irreducible] Code.wp wpList wpAnyH
open Go.Vs
theorem dE {p : Prop} {i : Decidable p} : (@decide p i = true) ↔ p := ⟨fun h => of_decide_eq_true h, fun h => decide_eq_true h⟩
theorem at_star (p : List Pc) : [42] ∈ atS p := (atS_mem p _).2 (.inr (.inl rfl))
theorem at_bang (p : List Pc) : [33] ∈ atS p := (atS_mem p _).2 (.inr (.inr rfl))
theorem at_of {p : List Pc} {x : Pc} (hx : x ∈ p) {s : Str} (hs : s = x.a ∨ s = x.b ∨ s = x.c) (hn : s ≠ []) : s ∈ atS p := by
  refine (atS_mem p s).2 (.inl ((atomsL_mem p s).2 ?_))
  refine List.mem_flatMap.2 ⟨x, hx, List.mem_filter.2 ⟨?_, by simpa using hn⟩⟩
  rcases hs with rfl | rfl | rfl <;> simp
theorem atom_ne {s : Str} (h : atomS s = true) : s ≠ [] := fun e => by subst e; revert h; decide
/-- the last atom of a piece is one -/
theorem valid_c {p : Pc} (h : p.valid = true) (hk : p.kind = 1 ∨ p.kind = 2 ∨ p.kind = 3 ∨ p.kind = 4 ∨ p.kind = 9) : p.c ≠ [] := by
  unfold Pc.valid at h
  split at h
  · simp at h
  split at h
  · simp at h
  split at h
  · simp at h
  simp only [Bool.and_eq_true] at h
  obtain ⟨⟨⟨⟨_, hc⟩, _⟩, _⟩, _⟩ := h
  have key : ∀ {b : Bool}, fldS b p.c atomS = true → b = true → p.c ≠ [] := fun h1 h2 => by
    subst h2; simp [fldS] at h1; exact atom_ne h1
  rcases hk with q | q | q | q | q <;> rw [q] at hc <;> exact key hc (by decide)
theorem fo1 {A : List Str} {a b : Str} : factOk A (fsub a b) = true ↔ a ∈ A ∧ b ∈ A := by
  unfold factOk fsub isSubB
  dsimp only
  rw [if_pos rfl, Bool.and_eq_true, Bool.and_eq_true, dE, dE, dE]
  simp [fsub]
theorem fo2 {A : List Str} {a r b : Str} : factOk A (flink a r b) = true ↔ a ∈ A ∧ b ∈ A ∧ r ≠ [] := by
  unfold factOk flink
  dsimp only
  rw [if_neg (by decide), if_pos rfl, Bool.and_eq_true, Bool.and_eq_true, Bool.and_eq_true, dE, dE, dE, dE]
  simp [flink]
theorem fo3 {A : List Str} {a r : Str} {lo hi : Int} : factOk A (fspan a r lo hi) = true ↔ a ∈ A ∧ r ≠ [] ∧ -1099511627776 ≤ lo ∧ lo ≤ hi ∧ hi ≤ 1099511627776 := by
  unfold factOk fspan
  dsimp only
  rw [if_neg (by decide), if_neg (by decide), if_pos rfl, Bool.and_eq_true, Bool.and_eq_true, Bool.and_eq_true, Bool.and_eq_true, Bool.and_eq_true, dE, dE, dE, dE, dE, dE]
  simp [fspan]
/-- what follows speaks of the atoms -/
theorem one_ok {p : List Pc} {S : Fc → Prop} (hp : ∀ x ∈ p, x.valid = true) (hS : ∀ y, S y → factOk (atS p) y = true) {y : Fc} (h : One' p (atS p) S y) : factOk (atS p) y = true := by
  have hc : ∀ {x : Pc}, x ∈ p → (x.kind = 1 ∨ x.kind = 2 ∨ x.kind = 3 ∨ x.kind = 4 ∨ x.kind = 9) → x.c ∈ atS p := fun hx hk => at_of hx (.inr (.inr rfl)) (valid_c (hp _ hx) hk)
  have hv : ∀ {x : Pc}, x ∈ p → x.vok := fun hx => valid_vok (hp _ hx)
  cases h with
  | r1 h => exact fo1.2 ⟨h, h⟩
  | r2 h => exact fo1.2 ⟨h, at_star p⟩
  | r10 hx hk h => exact fo2.2 ⟨h, h, (hv hx).rok.1 (by simp [hk])⟩
  | r3 hx hk h => exact fo1.2 ⟨(fo1.1 (hS _ h)).1, hc hx (by simp [hk])⟩
  | r4 hx hk h h' => exact fo1.2 ⟨(fo1.1 (hS _ h)).1, hc hx (by simp [hk])⟩
  | r5 hx hk h => exact fo2.2 ⟨(fo1.1 (hS _ h)).1, hc hx (by simp [hk]), (hv hx).rok.1 (by simp [hk])⟩
  | r6 hx hk h => exact fo2.2 ⟨(fo2.1 (hS _ h)).1, (fo2.1 (hS _ h)).2.1, (hv hx).rok.2.2 hk⟩
  | r7 hx hk h h' => exact fo2.2 ⟨(fo2.1 (hS _ h)).1, (fo2.1 (hS _ h')).2.1, ((hv hx).rok.2.1 hk).2⟩
  | r8 hx hk h h' => exact fo1.2 ⟨(fo2.1 (hS _ h)).1, hc hx (by simp [hk])⟩
  | r9 h h' => exact fo1.2 ⟨(fo2.1 (hS _ h)).1, at_bang p⟩
  | r11 hx hk h => exact fo3.2 ⟨(fo1.1 (hS _ h)).1, (hv hx).rok.1 (by simp [hk]), (hv hx).num (.inl hk)⟩
  | r12 h h' hm hl =>
    have h1 := fo3.1 (hS _ h)
    have h2 := fo3.1 (hS _ h')
    exact fo3.2 ⟨h1.1, h1.2.1, by omega, hl, by omega⟩
  | r13 h h' hm hl => exact fo1.2 ⟨(fo3.1 (hS _ h)).1, at_bang p⟩
  | r14 hx hk h h1 h2 => exact fo1.2 ⟨(fo3.1 (hS _ h)).1, hc hx (by simp [hk])⟩
theorem der_ok {p : List Pc} (hp : ∀ x ∈ p, x.valid = true) {y : Fc} (h : Der p (atS p) y) : factOk (atS p) y = true := h _ fun _ hy => one_ok hp (fun _ h => h) hy
theorem check_valid {p : List Pc} (h : checkP p = 0) : ∀ x ∈ p, x.valid = true := fun x hx => List.all_eq_true.1 (check_ok h).2 x hx
/-- the closure of pieces is one -/
theorem allIs_chk {p : List Pc} {m : Nat} {L : List Fc} (hp : checkP p = 0) (h : AllIs p (atS p) m (some L)) (hm : m ≤ 65536) : checkC (atS p) L = 0 :=
  (chk_yes ⟨atS_lt p, h.1, at_star p, at_bang p, fun f hf => der_ok (check_valid hp) ((h.2.1 f).1 hf)⟩ (by have := h.2.2; omega)).symm
theorem allIs_closed {p : List Pc} {A : List Str} {m : Nat} {L : List Fc} (h : AllIs p A m (some L)) {y : Fc} (hy : One' p A (· ∈ L) y) : y ∈ L :=
  (h.2.1 y).2 (Der.step (hy.mono (fun x hx => ⟨x, hx, x.frm, rfl⟩) (fun _ h => h) (fun z hz => (h.2.1 z).1 hz) (fun _ _ h => h)))
/-- All, its answer in the good case -/
theorem AllR.good {p : List Pc} {bu : Int} {c : Cl} (h : AllR p bu c 0) : checkP p = 0 ∧ 0 ≤ bu ∧ bu ≤ 1073741824 ∧ c.ok ∧ c.atoms = atS p ∧ AllIs p (atS p) (min bu 65536).toNat (some c.facts) := by
  unfold AllR at h
  split at h
  · rename_i h1; exact absurd h.2.symm h1
  · rename_i h1
    split at h
    · exact absurd h.2 (by decide)
    · rename_i h2
      rcases h with h | h
      · exact ⟨by simpa using h1, by omega, by omega, h.2⟩
      · have := h.2.1; split at this <;> exact absurd this (by decide)
theorem AllR.bad {p : List Pc} {bu : Int} {c : Cl} {e : Int} (h : AllR p bu c e) (he : e ≠ 0) : c = Cl.no := by
  unfold AllR at h
  split at h
  · exact h.1
  · split at h
    · exact h.1
    · rcases h with h | h
      · exact absurd h.1 he
      · exact h.1
theorem AllR.ok {p : List Pc} {bu : Int} {c : Cl} {e : Int} (h : AllR p bu c e) : c.ok := by
  by_cases he : e = 0
  · subst he; exact h.good.2.2.2.1
  · rw [h.bad he]; exact Cl.no_ok
/-- how long they are -/
theorem AllR.len {p : List Pc} {bu : Int} {c : Cl} {e : Int} (h : AllR p bu c e) : c.atoms.length ≤ 3 * p.length + 2 ∧ c.facts.length ≤ 65536 := by
  by_cases he : e = 0
  · subst he
    obtain ⟨_, _, _, _, h1, h2⟩ := h.good
    refine ⟨by rw [h1]; exact atS_len p, ?_⟩
    have := h2.2.2
    omega
  · rw [h.bad he]; simp [Cl.no]
theorem allR_of {p : List Pc} {bu : Int} {c : Cl} {e : Int} {r : Option (List Fc)} (h : AllR p bu c e) (hc : checkP p = 0) (hb : 0 ≤ bu) (hb2 : bu ≤ 1073741824) (hr : AllIs p (atS p) (min bu 65536).toNat r) : (∀ L, r = some L → e = 0 ∧ c.facts = L ∧ c.atoms = atS p) ∧ (r = none → c = Cl.no ∧ e = if bu < 65536 then 3 else 2) := by
  unfold AllR at h
  rw [if_neg (by simp [hc]), if_neg (by omega)] at h
  rcases h with ⟨h1, h2, h3, h4⟩ | ⟨h1, h2, h3⟩
  · have e := AllIs.uniq h4 hr
    subst e
    exact ⟨fun L hL => ⟨h1, Option.some.inj hL, h3⟩, fun h => (by cases h)⟩
  · have e := AllIs.uniq h3 hr
    subst e
    exact ⟨fun L hL => (by cases hL), fun _ => ⟨h1, h2⟩⟩
theorem NextR.good {p : List Pc} {at' : List Str} {fs l : List Fc} {e : Int} (h : NextR p at' fs l e) (hp : checkP p = 0) (hc : checkC at' fs = 0) : e = 0 ∧ Srt l ∧ ∀ y, y ∈ l ↔ One' p (atS p) (· ∈ fs) y ∧ y ∉ fs := by
  unfold NextR at h
  rw [if_neg (by simp [hp]), if_neg (by simp [hc])] at h
  exact h
theorem next_none {p : List Pc} {m : Nat} {L l : List Fc} {e : Int} (hp : checkP p = 0) (hm : m ≤ 65536) (hA : AllIs p (atS p) m (some L)) (h : NextR p (atS p) L l e) : l = [] ∧ e = 0 := by
  obtain ⟨h1, _, h3⟩ := h.good hp (allIs_chk hp hA hm)
  refine ⟨List.eq_nil_iff_forall_not_mem.2 fun y hy => ?_, h1⟩
  have := (h3 y).1 hy
  exact this.2 (allIs_closed hA this.1)
end Go.Proofs.YtpdbbglpbngeiaaGreatDoor
namespace Go.Proofs.YtpdbbglpbngeiaaGreatDoor
open Go Go.Sx Go.Proofs
set_option linter.unusedVariables false
attribute [local irreducible] Code.wp wpList wpAnyH
open Go.Vs
theorem yld_addW {N : Nat} {fr : Fr} {H : Hp} {Γ : List Fct} {P : Program} {ty t t' : TypeId} {x y : Operand} {m n : Int} (hx : Fr.ev fr x = some (.int .i64 m)) (hy : Fr.ev fr y = some (.int .i64 n)) : Yld P N fr H Γ (.binOp .add t x y t') ty (.int .i64 (IntKind.wrap .i64 (m + n))) :=
  fun a v h1 _ _ _ _ _ => by simp [execOp, h1.ev hx, h1.ev hy, eqGuard, binOp, Op.intArith]
def pcLen (x : Pc) : Int := (x.a.length : Int) + (x.b.length : Int) + (x.c.length : Int) + (x.r.length : Int) + (x.s.length : Int) + (x.t.length : Int)
def plen : List Pc → Int
  | [] => 0
  | x :: l => pcLen x + plen l
theorem plen_snoc : ∀ (l : List Pc) (x : Pc), plen (l ++ [x]) = plen l + pcLen x
  | [], x => by simp [plen]
  | y :: l, x => by simp only [List.cons_append, plen, plen_snoc l x]; omega
theorem plen_step {p : List Pc} {i : Nat} {x : Pc} (h : p[i]? = some x) : plen (p.take (i + 1)) = plen (p.take i) + pcLen x := by
  rw [List.take_add_one, h, Option.toList_some, plen_snoc]
theorem plen_bnd : ∀ {l : List Pc}, (∀ x ∈ l, x.big) → 0 ≤ plen l ∧ plen l ≤ l.length * 844424930107392
  | [], _ => by simp [plen]
  | x :: l, h => by
    have h1 := plen_bnd (l := l) fun y hy => h y (by simp [hy])
    obtain ⟨a, b, c, d, e, f⟩ := h x (by simp)
    simp only [plen, pcLen, List.length_cons]
    omega
theorem plen_sm : ∀ {l : List Pc} {n : Int}, plen l ≤ n → n ≤ 17592186044414 → ∀ x ∈ l, x.sm
  | [], _, _, _, x, hx => by simp at hx
  | y :: l, n, h, hn, x, hx => by
    have h0 : 0 ≤ plen l := plen_pos l
    simp only [plen, pcLen] at h
    rcases List.mem_cons.1 hx with rfl | hx
    · exact ⟨by omega, by omega, by omega, by omega, by omega, by omega⟩
    · exact plen_sm (l := l) (n := n) (by omega) hn x hx
where plen_pos : ∀ l : List Pc, 0 ≤ plen l
  | [] => by simp [plen]
  | x :: l => by have := plen_pos l; simp only [plen, pcLen]; omega
theorem few10_c (p : List Pc) (pad : Option Addr) (pcap : Nat) (hp : p.length ≤ 1099511627744) (hbig : ∀ x ∈ p, x.big) : Tri Tryz.prog 16 #[.slice pad (List.length p) pcap] [] [rowF pad (List.flatMap Pc.cells p)] (fun b : {b : Bool // b = true → p.length ≤ 40 ∧ ∀ x ∈ p, x.sm} => .bool b.1) (fun _ => []) (fun _ => []) := by
 refine tri_of_body Tryz.func16 rfl rfl Tryz.ntmps16 rfl fun v0 => ?_
 refine run_seq (run_region (ops_val (yld_assign rfl) rfl (ops_nil (fin_next rfl (run_seq (run_region (ops_val (yld_assign rfl) rfl ?_)))))))
 refine ops_nil (fin_next rfl (run_seq (run_seq (run_region (ops_val (yld_move rfl) rfl (ops_val (yld_lenS Tryz.runUnderlying22 rfl) rfl ?_))))))
 refine ops_val (yld_move rfl) rfl (ops_nil (fin_next rfl (run_block (ok_fr [(0, .slice pad (List.length p) pcap), (3, .int .i64 0), (6, .slice pad (List.length p) pcap), (7, .int .i64 (List.length p : Int)), (8, .int .i64 ((0 : Nat) : Int))] ⟨rfl, rfl, rfl, rfl, rfl, trivial⟩ ?_))))
 refine run_loop (ι := {y : Nat × Int // y.1 ≤ List.length p ∧ (List.length p ≤ 40 → y.2 = plen (List.take y.1 p))}) (fun y => [(0, .slice pad (List.length p) pcap), (3, .int .i64 y.1.2), (6, .slice pad (List.length p) pcap), (7, .int .i64 (List.length p : Int)), (8, .int .i64 (y.1.1 : Int))]) (fun y => ([])) (fun y => [rowF pad (List.flatMap Pc.cells p)]) (fun y => List.length p - y.1.1) ⟨((0 : Nat), 0), by simp, fun _ => rfl⟩ ?_
 rintro ⟨⟨i, w⟩, hi, hw⟩
 dsimp only at hi hw ⊢
 refine ok_fr [(0, .slice pad (List.length p) pcap), (3, .int .i64 w), (6, .slice pad (List.length p) pcap), (7, .int .i64 (List.length p : Int)), (8, .int .i64 (i : Int))] ⟨rfl, rfl, rfl, rfl, rfl, trivial⟩ ?_
 refine run_seq (run_region (ops_valB (yld_lss rfl rfl) rfl fun r1 hr1 => ?_))
 refine ops_nil (fin_next rfl (run_seq ?_))
 cases r1
 ·
  replace hr1 := of_decide_eq_false hr1
  refine run_cond_f rfl (run_exit rfl (fin_next rfl (run_seq (run_region (ops_val (yld_move rfl) rfl (ops_val (yld_lenS Tryz.runUnderlying22 rfl) rfl ?_))))))
  refine ops_valB (yld_leq rfl rfl) rfl fun r2 hr2 => ?_
  refine ops_val (yld_move rfl) rfl ?_
  cases r2
  ·
   replace hr2 := of_decide_eq_false hr2
   refine ops_no rfl rfl rfl rfl (ops_no rfl rfl rfl rfl (ops_val (yld_pick_f rfl rfl) rfl ?_))
   refine ops_val (yld_assign rfl) rfl (ops_nil (fin_next rfl (run_ret ?_)))
   exact ret1 Tryz.results16 ⟨false, fun h => by cases h⟩ rfl pf_nil (fun _ _ _ => trivial)
  ·
   replace hr2 := of_decide_eq_true hr2
   refine ops_yes rfl rfl (ops_val (yld_move rfl) rfl (ops_yes rfl rfl (ops_valB (yld_leq rfl rfl) rfl fun r3 hr3 => ?_)))
   refine ops_val (yld_pick_t rfl rfl) rfl ?_
   refine ops_val (yld_assign rfl) rfl (ops_nil (fin_next rfl (run_ret ?_)))
   exact ret1 Tryz.results16 ⟨r3, fun h => ⟨by omega, by rw [h] at hr3; have hle := of_decide_eq_true hr3; rw [hw (by omega), List.take_of_length_le (by omega)] at hle; exact plen_sm hle (by decide)⟩⟩ rfl pf_nil (fun _ _ _ => trivial)
 ·
  replace hr1 := of_decide_eq_true hr1
  have hlx1 : i < List.length p := by omega
  obtain ⟨x1, hx1⟩ : ∃ e0, p[i]? = some e0 := ⟨_, List.getElem?_eq_getElem hlx1⟩
  have hmx1 : x1 ∈ p := List.mem_of_getElem? hx1
  obtain ⟨q1, q2, q3, q4, q5, q6⟩ := hbig x1 hmx1
  refine run_cond_t rfl (run_skip (fin_next rfl (run_seq (run_block (run_seq (run_region (ops_val (yld_indexR Tryz.runUnderlying22 Tryz.sizeOf47 rfl rfl (fun v _ h => row_adr (n := 10) Pc.cells_len (by decide) (by exact h.1) hx1) (by omega) (by first | omega | (simp; done))) rfl ?_)))))))
  refine ops_val (yld_loadRS (ad := pad) (us := Pc.cells x1) Tryz.isAgg47 Tryz.sizeOf47 rfl (fun v _ h => by exact h.1) (Pc.cells_len _) (row_cells Pc.cells_len hx1)) rfl ?_
  refine ops_alloc Tryz.zeroValue47 rfl fun b1 => ?_
  refine ops_store 0 Tryz.sizeOf47 rfl rfl rfl rfl rfl rfl ?_
  refine ops_nil (fin_next rfl (run_region (ops_val (yld_move rfl) rfl (ops_val (yld_field Tryz.runUnderlying47 rfl rfl rfl Tryz.sizeOf9) rfl ?_))))
  refine ops_val (yld_load 0 Tryz.isAgg9 rfl rfl rfl) rfl ?_
  refine ops_val (yld_lenT Tryz.runUnderlying9 rfl) rfl ?_
  refine ops_val (yld_field Tryz.runUnderlying47 rfl rfl rfl Tryz.sizeOf9) rfl ?_
  refine ops_val (yld_load 0 Tryz.isAgg9 rfl rfl rfl) rfl ?_
  refine ops_val (yld_lenT Tryz.runUnderlying9 rfl) rfl ?_
  refine ops_val (yld_arith rfl rfl rfl (wrap64 (by omega) (by omega))) rfl ?_
  refine ops_val (yld_field Tryz.runUnderlying47 rfl rfl rfl Tryz.sizeOf9) rfl ?_
  refine ops_val (yld_load 0 Tryz.isAgg9 rfl rfl rfl) rfl ?_
  refine ops_val (yld_lenT Tryz.runUnderlying9 rfl) rfl ?_
  refine ops_val (yld_arith rfl rfl rfl (wrap64 (by omega) (by omega))) rfl ?_
  refine ops_val (yld_field Tryz.runUnderlying47 rfl rfl rfl Tryz.sizeOf9) rfl ?_
  refine ops_val (yld_load 0 Tryz.isAgg9 rfl rfl rfl) rfl ?_
  refine ops_val (yld_lenT Tryz.runUnderlying9 rfl) rfl ?_
  refine ops_val (yld_arith rfl rfl rfl (wrap64 (by omega) (by omega))) rfl ?_
  refine ops_val (yld_field Tryz.runUnderlying47 rfl rfl rfl Tryz.sizeOf9) rfl ?_
  refine ops_val (yld_load 0 Tryz.isAgg9 rfl rfl rfl) rfl ?_
  refine ops_val (yld_lenT Tryz.runUnderlying9 rfl) rfl ?_
  refine ops_val (yld_arith rfl rfl rfl (wrap64 (by omega) (by omega))) rfl ?_
  refine ops_val (yld_field Tryz.runUnderlying47 rfl rfl rfl Tryz.sizeOf9) rfl ?_
  refine ops_val (yld_load 0 Tryz.isAgg9 rfl rfl rfl) rfl ?_
  refine ops_val (yld_lenT Tryz.runUnderlying9 rfl) rfl ?_
  refine ops_val (yld_arith rfl rfl rfl (wrap64 (by omega) (by omega))) rfl ?_
  refine ops_val (yld_addW rfl rfl) rfl ?_
  refine ops_val (yld_assign rfl) rfl (ops_nil (fin_next rfl (run_region (ops_val (yld_arith rfl rfl rfl (wrap64 (by omega) (by omega))) rfl ?_))))
  refine ops_val (yld_move rfl) rfl (ops_nil (fin_inv rfl ?_))
  exact ok_again ⟨(i + 1, (IntKind.wrap .i64 (w + (((((((Pc.a x1).length : Int) + ((Pc.b x1).length : Int)) + ((Pc.c x1).length : Int)) + ((Pc.r x1).length : Int)) + ((Pc.s x1).length : Int)) + ((Pc.t x1).length : Int))))), hlx1, fun h40 => by rw [plen_step hx1, hw h40]; have hq := plen_bnd (l := List.take i p) (fun x hx => hbig x (List.mem_of_mem_take hx)); rw [List.length_take] at hq; unfold pcLen; exact wrap64 (by omega) (by omega)⟩ (by dsimp only; omega) ⟨rfl, rfl, rfl, rfl, rfl, trivial⟩ pf_nil (fun v _ h => by exact ⟨h.1, trivial⟩)
theorem atS_nil : atS [] = [[33], [42]] := sorted_ext str_irr List.lt_trans (atS_lt []) (by decide) fun x => by
  rw [atS_mem, atomsL_mem]
  simp [atomsR, or_comm]
def P3 : List Pc := [⟨3, [65], [], [66], [114], [], [], 0, 0, 0⟩, ⟨4, [42], [], [67], [114], [], [], 0, 0, 0⟩]
def A3 : List Str := [[33], [42], [65], [66], [67]]
theorem atS_P3 : atS P3 = A3 := sorted_ext str_irr List.lt_trans (atS_lt P3) (by decide) fun x => by
  rw [atS_mem, atomsL_mem]
  simp only [atomsR, atoms1, P3, A3, List.flatMap_cons, List.flatMap_nil, List.mem_append, List.mem_cons, List.not_mem_nil, or_false]
  simp
  constructor
  · intro h
    simp only [or_assoc] at h
    rcases h with rfl | rfl | rfl | rfl | rfl | rfl <;> simp
  · rintro (rfl | rfl | rfl | rfl | rfl) <;> simp
theorem P3_chk : checkP P3 = 0 := by decide +kernel
theorem nil_chk : checkP [] = 0 := by decide +kernel
def F0 : List Fc := clos [] [[33], [42]] 3
def F3 : List Fc := clos P3 A3 4
theorem F0_is (m : Nat) (hm : 3 ≤ m) : AllIs [] [[33], [42]] m (some F0) := clos_all (fun x hx => by simp at hx) 3 m (by decide +kernel) (Nat.le_trans (by decide +kernel) hm)
theorem F0_no : AllIs [] [[33], [42]] 2 none := clos_none (fun x hx => by simp at hx) 3 2 (by decide +kernel)
theorem F3_is : AllIs P3 A3 65536 (some F3) := clos_all (check_vok P3_chk) 4 65536 (by decide +kernel) (by decide +kernel)
theorem sane1 {c : Cl} {e : Int} (h : AllR [] 3 c e) : e = 0 ∧ c.atoms = [[33], [42]] ∧ c.facts = F0 := by
  have := (allR_of h nil_chk (by decide) (by decide) (r := some F0) (by rw [atS_nil]; exact F0_is 3 (by decide))).1 _ rfl
  rw [atS_nil] at this
  exact ⟨this.1, this.2.2, this.2.1⟩
theorem sane2 {c : Cl} {e : Int} (h : AllR [] 2 c e) : e = 3 ∧ c = Cl.no := by
  have := (allR_of h nil_chk (by decide) (by decide) (r := none) (by rw [atS_nil]; exact F0_no)).2 rfl
  exact ⟨this.2, this.1⟩
theorem sane3 {c : Cl} {e : Int} (h : AllR P3 1073741824 c e) : e = 0 ∧ c.atoms = atS P3 ∧ c.facts = F3 := by
  have := (allR_of h P3_chk (by decide) (by decide) (r := some F3) (by rw [atS_P3]; exact F3_is)).1 _ rfl
  exact ⟨this.1, this.2.2, this.2.1⟩
theorem sane4 {at' : List Str} {fs l : List Fc} {e : Int} (ha : at' = atS P3) (hf : fs = F3) (h : NextR P3 at' fs l e) : l = [] ∧ e = 0 := by
  subst ha; subst hf
  exact next_none P3_chk (Nat.le_refl _) (by rw [atS_P3]; exact F3_is) h
theorem F0_len : F0.length = 3 := by decide +kernel
theorem F3_a : derB F3 (flink [65] [114] [66]) = true := by decide +kernel
theorem F3_b : derB F3 (fsub [65] [67]) = true := by decide +kernel
theorem F3_c : derB F3 (fsub [66] [67]) = false := by decide +kernel
theorem F3_len : F3.length ≤ 1000 := by decide +kernel
end Go.Proofs.YtpdbbglpbngeiaaGreatDoor
namespace Go.Proofs.YtpdbbglpbngeiaaGreatDoor
open Go Go.Sx Go.Proofs
set_option linter.unusedVariables false
attribute [local irreducible] Code.wp wpList wpAnyH
open Go.Vs
set_option maxHeartbeats 1000000 in
theorem sane10_c : Tri Tryz.prog 15 #[] [] [tabN] (fun _ : Unit => .bool true) (fun _ => []) (fun _ => []) := by
 refine tri_of_body Tryz.func15 rfl rfl Tryz.ntmps15 rfl fun v0 => ?_
 refine run_seq (run_region (ops_val (yld_assign rfl) rfl (ops_nil (fin_next rfl (run_seq (run_region (ops_call (all_c ([] : List Pc) none 0 3 (Pc.sm_all (by decide +kernel)) (by decide)) rfl pf_nil (fun v _ h => by exact ⟨.inl rfl, h.1, trivial⟩) rfl fun ⟨⟨c1, e1⟩, hA1⟩ => ?_)))))))
 dsimp only
 dsimp only at hA1
 obtain ⟨rfl, ha1, hf1⟩ := sane1 hA1
 refine ops_val (yld_move rfl) rfl (ops_val (yld_extract rfl rfl) rfl ?_)
 refine ops_val (yld_extract rfl rfl) rfl ?_
 refine ops_alloc Tryz.zeroValue28 rfl fun b1 => ?_
 refine ops_store 0 Tryz.sizeOf28 rfl rfl rfl rfl rfl rfl ?_
 refine ops_val (yld_assign rfl) rfl (ops_nil (fin_next rfl (run_seq (run_region (ops_call (all_c ([] : List Pc) none 0 2 (Pc.sm_all (by decide +kernel)) (by decide)) rfl pf_nil (fun v _ h => by exact ⟨.inl rfl, h.2.2.1, trivial⟩) rfl fun ⟨⟨c2, e2⟩, hA2⟩ => ?_)))))
 dsimp only
 dsimp only at hA2
 obtain ⟨rfl, hc2⟩ := sane2 hA2
 refine ops_val (yld_move rfl) rfl (ops_val (yld_extract rfl rfl) rfl ?_)
 refine ops_val (yld_extract rfl rfl) rfl ?_
 refine ops_alloc Tryz.zeroValue28 rfl fun b2 => ?_
 refine ops_store 0 Tryz.sizeOf28 rfl rfl rfl rfl rfl rfl ?_
 refine ops_val (yld_assign rfl) rfl (ops_nil (fin_next rfl (run_seq (run_region (ops_val (yld_struct strt47 rfl rfl) rfl ?_)))))
 refine ops_val (yld_struct strt47 rfl rfl) rfl ?_
 refine ops_slit Tryz.runUnderlying22 Tryz.sizeOf47 Tryz.zeroValue47 rfl rfl rfl rfl rfl rfl fun b3 => ?_
 refine ok_giveR (List.flatMap Pc.cells [(Pc.mk 3 [65] [] [66] [114] [] [] 0 0 0), (Pc.mk 4 [42] [] [67] [114] [] [] 0 0 0)]) pf_here rfl ?_
 refine ops_val (yld_assign rfl) rfl (ops_nil (fin_next rfl (run_seq (run_region (ops_val (yld_move rfl) rfl (ops_call (all_c [(Pc.mk 3 [65] [] [66] [114] [] [] 0 0 0), (Pc.mk 4 [42] [] [67] [114] [] [] 0 0 0)] (some ⟨b3, 0, none⟩) 2 1073741824 (Pc.sm_all (by decide +kernel)) (by decide)) rfl pf_nil (fun v _ h => by exact ⟨h.1, h.2.2.2.2.2.1, trivial⟩) rfl fun ⟨⟨c3, e3⟩, hA3⟩ => ?_))))))
 dsimp only
 dsimp only at hA3
 obtain ⟨rfl, ha3, hf3⟩ := sane3 hA3
 refine ops_val (yld_move rfl) rfl (ops_val (yld_extract rfl rfl) rfl ?_)
 refine ops_val (yld_extract rfl rfl) rfl ?_
 refine ops_alloc Tryz.zeroValue28 rfl fun b4 => ?_
 refine ops_store 0 Tryz.sizeOf28 rfl rfl rfl rfl rfl rfl ?_
 refine ops_val (yld_assign rfl) rfl (ops_nil (fin_next rfl (run_seq (run_region (ops_val (yld_move rfl) rfl (ops_val (yld_loadS 0 Tryz.isAgg28 Tryz.sizeOf28 rfl rfl rfl) rfl ?_))))))
 refine ops_call (next_c [(Pc.mk 3 [65] [] [66] [114] [] [] 0 0 0), (Pc.mk 4 [42] [] [67] [114] [] [] 0 0 0)] (some ⟨b3, 0, none⟩) 2 c3 (Pc.sm_all (by decide +kernel)) (by decide) (by rw [ha3, atS_P3]; decide) (by rw [hf3]; have := F3_len; omega)) rfl pf_nil (fun v _ h => by exact ⟨h.2.2.1, h.2.2.2.2.2.2.2.1, h.1, h.2.1, trivial⟩) rfl fun ⟨⟨oad, ocap, nl, ne⟩, hrk, hNx⟩ => ?_
 dsimp only
 dsimp only at hrk hNx
 obtain ⟨rfl, rfl⟩ := sane4 ha3 hf3 hNx
 refine ops_val (yld_move rfl) rfl (ops_val (yld_extract rfl rfl) rfl ?_)
 refine ops_val (yld_extract rfl rfl) rfl ?_
 refine ops_val (yld_assign rfl) rfl (ops_val (yld_assign rfl) rfl (ops_nil (fin_next rfl (run_seq ?_))))
 have hlx1 : 0 < List.length (Cl.atoms c1) := by rw [ha1]; decide
 obtain ⟨x1, hx1⟩ : ∃ e0, (Cl.atoms c1)[0]? = some e0 := ⟨_, List.getElem?_eq_getElem hlx1⟩
 have hmx1 : x1 ∈ (Cl.atoms c1) := List.mem_of_getElem? hx1
 have hx1e : x1 = [33] := by rw [ha1] at hx1; simpa using hx1.symm
 refine run_draw' (by kernel_rfl) ?_
 refine any_sq 46 [0, 1, 2, 3, 4, 5, 6, 7, 8] (by kernel_rfl) (fun _ a b => ⟨a, b⟩) ?_
 refine sq_val rfl (yld_move rfl) rfl ?_
 refine sq_val rfl (yld_eq (yld_eql rfl rfl) (show _ = Value.bool true from congrArg Value.bool (by decide))) rfl ?_
 refine sq_val rfl (yld_move rfl) rfl ?_
 refine sq_valY rfl rfl rfl (yld_field Tryz.runUnderlying28 rfl rfl rfl Tryz.sizeOf25) rfl ?_
 refine sq_valY rfl rfl rfl (yld_load 2 Tryz.isAgg25 rfl rfl rfl) rfl ?_
 refine sq_valY rfl rfl rfl (yld_lenS Tryz.runUnderlying25 rfl) rfl ?_
 refine sq_valYB rfl rfl rfl (yld_eql rfl rfl) rfl fun r1 hr1 => ?_
 refine sq_val rfl (yld_pick_t rfl rfl) rfl ?_
 refine sq_val rfl (yld_move rfl) rfl ?_
 refine sq_nil ?_
 cases r1
 ·
  replace hr1 := ne_of_beq_false hr1
  exact absurd (by rw [ha1]; rfl) hr1
 ·
  replace hr1 := eq_of_beq hr1
  refine any_sq 39 [9, 10, 11, 12, 13, 14, 15] (by kernel_rfl) (fun _ a b => ⟨a, b⟩) ?_
  refine sq_valY rfl rfl rfl (yld_field Tryz.runUnderlying28 rfl rfl rfl Tryz.sizeOf25) rfl ?_
  refine sq_valY rfl rfl rfl (yld_load 2 Tryz.isAgg25 rfl rfl rfl) rfl ?_
  refine sq_valY rfl rfl rfl (yld_indexR Tryz.runUnderlying25 Tryz.sizeOf9 rfl rfl (fun v _ h => row_adr (n := 1) strC_len (by decide) (by exact h.2.2.2.2.2.2.1) hx1) (by omega) (by first | omega | (simp; done))) rfl ?_
  refine sq_valY rfl rfl rfl (yld_loadR (ad := (Cl.aad c1)) Tryz.isAgg9 rfl (fun v _ h => by exact h.2.2.2.2.2.2.1) (row_cells strC_len hx1 0 _ rfl)) rfl ?_
  refine sq_valYB rfl rfl rfl (yld_seql rfl rfl) rfl fun r2 hr2 => ?_
  refine sq_val rfl (yld_pick_t rfl rfl) rfl ?_
  refine sq_val rfl (yld_move rfl) rfl ?_
  refine sq_nil ?_
  cases r2
  ·
   replace hr2 := ne_of_beq_false hr2
   exact absurd hx1e hr2
  ·
   replace hr2 := eq_of_beq hr2
   refine any_sq 33 [16, 17, 18, 19, 20, 21] (by kernel_rfl) (fun _ a b => ⟨a, b⟩) ?_
   refine sq_valY rfl rfl rfl (yld_field Tryz.runUnderlying28 rfl rfl rfl Tryz.sizeOf26) rfl ?_
   refine sq_valY rfl rfl rfl (yld_load 2 Tryz.isAgg26 rfl rfl rfl) rfl ?_
   refine sq_valY rfl rfl rfl (yld_lenS Tryz.runUnderlying26 rfl) rfl ?_
   refine sq_valYB rfl rfl rfl (yld_eql rfl rfl) rfl fun r3 hr3 => ?_
   refine sq_val rfl (yld_pick_t rfl rfl) rfl ?_
   refine sq_val rfl (yld_move rfl) rfl ?_
   refine sq_nil ?_
   cases r3
   ·
    replace hr3 := ne_of_beq_false hr3
    exact absurd (by rw [hf1, F0_len]; rfl) hr3
   ·
    replace hr3 := eq_of_beq hr3
    refine any_sq 24 [22, 23, 24, 25, 26, 27, 28, 29, 30] (by kernel_rfl) (fun _ a b => ⟨a, b⟩) ?_
    refine sq_valY rfl rfl rfl (yld_move rfl) rfl ?_
    refine sq_valY rfl rfl rfl (yld_eq (yld_eql rfl rfl) (show _ = Value.bool true from congrArg Value.bool (by decide))) rfl ?_
    refine sq_val rfl (yld_pick_t rfl rfl) rfl ?_
    refine sq_val rfl (yld_move rfl) rfl ?_
    refine sq_valY rfl rfl rfl (yld_move rfl) rfl ?_
    refine sq_valY rfl rfl rfl (yld_eq (yld_eql rfl rfl) (show _ = Value.bool true from congrArg Value.bool (by decide))) rfl ?_
    refine sq_val rfl (yld_pick_t rfl rfl) rfl ?_
    refine sq_val rfl (yld_move rfl) rfl ?_
    refine sq_valY rfl rfl rfl (yld_loadS 0 Tryz.isAgg28 Tryz.sizeOf28 rfl rfl rfl) rfl ?_
    refine sq_nil ?_
    refine any_one 31 rfl (by kernel_rfl) ?_
    refine ops_yes rfl rfl (ops_call (rlink_c [65] [114] [66]) rfl pf_nil (fun _ _ _ => by exact trivial) rfl fun _ => ?_)
    refine ops_nil (fin_inv rfl (any_next (fun _ a b => ⟨a, b⟩) ?_))
    refine any_one 32 rfl (by kernel_rfl) ?_
    refine ops_yes rfl rfl (ops_callB (der_c c3 (flink [65] [114] [66]) (by rw [hf3]; have := F3_len; omega)) rfl pf_nil (fun v _ h => by exact ⟨h.2.2.1, trivial⟩) rfl fun r4 hr4 => ?_)
    refine ops_nil (fin_inv rfl (any_next (fun _ a b => ⟨a, b⟩) ?_))
    refine any_sq 20 [33, 34] (by kernel_rfl) (fun _ a b => ⟨a, b⟩) ?_
    refine sq_val rfl (yld_pick_t rfl rfl) rfl ?_
    refine sq_val rfl (yld_move rfl) rfl ?_
    refine sq_nil ?_
    cases r4
    ·
     rw [hf3, F3_a] at hr4; cases hr4
    ·
     refine any_sq 19 [35] (by kernel_rfl) (fun _ a b => ⟨a, b⟩) ?_
     refine sq_valY rfl rfl rfl (yld_loadS 0 Tryz.isAgg28 Tryz.sizeOf28 rfl rfl rfl) rfl ?_
     refine sq_nil ?_
     refine any_one 36 rfl (by kernel_rfl) ?_
     refine ops_yes rfl rfl (ops_call (rsub_c [65] [67]) rfl pf_nil (fun _ _ _ => by exact trivial) rfl fun _ => ?_)
     refine ops_nil (fin_inv rfl (any_next (fun _ a b => ⟨a, b⟩) ?_))
     refine any_one 37 rfl (by kernel_rfl) ?_
     refine ops_yes rfl rfl (ops_callB (der_c c3 (fsub [65] [67]) (by rw [hf3]; have := F3_len; omega)) rfl pf_nil (fun v _ h => by exact ⟨h.2.2.1, trivial⟩) rfl fun r5 hr5 => ?_)
     refine ops_nil (fin_inv rfl (any_next (fun _ a b => ⟨a, b⟩) ?_))
     refine any_sq 15 [38, 39] (by kernel_rfl) (fun _ a b => ⟨a, b⟩) ?_
     refine sq_val rfl (yld_pick_t rfl rfl) rfl ?_
     refine sq_val rfl (yld_move rfl) rfl ?_
     refine sq_nil ?_
     cases r5
     ·
      rw [hf3, F3_b] at hr5; cases hr5
     ·
      refine any_sq 14 [40] (by kernel_rfl) (fun _ a b => ⟨a, b⟩) ?_
      refine sq_valY rfl rfl rfl (yld_loadS 0 Tryz.isAgg28 Tryz.sizeOf28 rfl rfl rfl) rfl ?_
      refine sq_nil ?_
      refine any_one 41 rfl (by kernel_rfl) ?_
      refine ops_yes rfl rfl (ops_call (rsub_c [66] [67]) rfl pf_nil (fun _ _ _ => by exact trivial) rfl fun _ => ?_)
      refine ops_nil (fin_inv rfl (any_next (fun _ a b => ⟨a, b⟩) ?_))
      refine any_one 42 rfl (by kernel_rfl) ?_
      refine ops_yes rfl rfl (ops_callB (der_c c3 (fsub [66] [67]) (by rw [hf3]; have := F3_len; omega)) rfl pf_nil (fun v _ h => by exact ⟨h.2.2.1, trivial⟩) rfl fun r6 hr6 => ?_)
      refine ops_nil (fin_inv rfl (any_next (fun _ a b => ⟨a, b⟩) ?_))
      refine any_sq 9 [43, 44, 45] (by kernel_rfl) (fun _ a b => ⟨a, b⟩) ?_
      refine sq_valY rfl rfl rfl (yld_not rfl) rfl ?_
      refine sq_val rfl (yld_pick_t rfl rfl) rfl ?_
      refine sq_val rfl (yld_move rfl) rfl ?_
      refine sq_nil ?_
      cases r6
      ·
       refine any_sq 0 [46, 47, 48, 49, 50, 51, 52, 53, 54] (by kernel_rfl) (fun _ a b => ⟨a, b⟩) ?_
       refine sq_valY rfl rfl rfl (yld_move rfl) rfl ?_
       refine sq_valY rfl rfl rfl (yld_eq (yld_eql rfl rfl) (show _ = Value.bool true from congrArg Value.bool (by decide))) rfl ?_
       refine sq_val rfl (yld_pick_t rfl rfl) rfl ?_
       refine sq_val rfl (yld_move rfl) rfl ?_
       refine sq_valY rfl rfl rfl (yld_move rfl) rfl ?_
       refine sq_valY rfl rfl rfl (yld_lenS Tryz.runUnderlying26 rfl) rfl ?_
       refine sq_valY rfl rfl rfl (yld_eq (yld_eql rfl rfl) (show _ = Value.bool true from congrArg Value.bool (by decide))) rfl ?_
       refine sq_val rfl (yld_pick_t rfl rfl) rfl ?_
       refine sq_val rfl (yld_assign rfl) rfl ?_
       refine sq_nil ?_
       refine any_done (by kernel_rfl) ?_
       refine fin_next rfl (run_ret ?_)
       exact ret1 Tryz.results15 () rfl pf_nil (fun _ _ _ => trivial)
      ·
       rw [hf3, F3_c] at hr6; cases hr6
end Go.Proofs.YtpdbbglpbngeiaaGreatDoor
namespace Go.Proofs.YtpdbbglpbngeiaaGreatDoor
open Go Go.Sx Go.Proofs
set_option linter.unusedVariables false
attribute [local irreducible] Code.wp wpList wpAnyH
open Go.Vs
/-- what a lesser atom has of a greater one -/
structure LiftT (p : List Pc) (A : List Str) (a b : Str) (y : Fc) : Prop where
  der : Der p A y
  sub : ∀ d, y = fsub b d → Der p A (fsub a d)
  link : ∀ r c, y = flink b r c → Der p A (flink a r c) ∨ c = b ∧ Der p A (flink a r a)
  span : ∀ r lo hi, y = fspan b r lo hi → Der p A (fspan a r lo hi)
theorem der_lift {p : List Pc} {A : List Str} {a b : Str} (ha : a ∈ A) (hab : Der p A (fsub a b)) {y : Fc} (h : Der p A y) : LiftT p A a b y := by
  refine h _ fun y hy => ?_
  have hd : Der p A y := Der.step (hy.mono (fun x hx => ⟨x, hx, x.frm, rfl⟩) (fun _ h => h) (fun z hz => hz.der) (fun _ _ h => h))
  refine ⟨hd, fun d e => ?_, fun r c e => ?_, fun r lo hi e => ?_⟩
  · cases hy with
    | r1 h => simp only [fsub, Fc.mk.injEq, true_and, and_true] at e; obtain ⟨rfl, rfl⟩ := e; exact hab
    | r2 h => simp only [fsub, Fc.mk.injEq, true_and, and_true] at e; obtain ⟨rfl, rfl⟩ := e; exact Der.step (.r2 ha)
    | r10 hx hk h => simp [fsub, flink] at e
    | r3 hx hk h => simp only [fsub, Fc.mk.injEq, true_and, and_true] at e; obtain ⟨rfl, rfl⟩ := e; exact Der.step (.r3 hx hk (h.sub _ rfl))
    | r4 hx hk h h' => simp only [fsub, Fc.mk.injEq, true_and, and_true] at e; obtain ⟨rfl, rfl⟩ := e; exact Der.step (.r4 hx hk (h.sub _ rfl) (h'.sub _ rfl))
    | r5 hx hk h => simp [fsub, flink] at e
    | r6 hx hk h => simp [fsub, flink] at e
    | r7 hx hk h h' => simp [fsub, flink] at e
    | r8 hx hk h h' =>
      simp only [fsub, Fc.mk.injEq, true_and, and_true] at e; obtain ⟨rfl, rfl⟩ := e
      rcases h.link _ _ rfl with g | ⟨rfl, g⟩
      · exact Der.step (.r8 hx hk g h'.der)
      · exact Der.step (.r8 hx hk g (h'.sub _ rfl))
    | r9 h h' =>
      simp only [fsub, Fc.mk.injEq, true_and, and_true] at e; obtain ⟨rfl, rfl⟩ := e
      rcases h.link _ _ rfl with g | ⟨rfl, g⟩
      · exact Der.step (.r9 g h'.der)
      · exact h'.sub _ rfl
    | r11 hx hk h => simp [fsub, fspan] at e
    | r12 h h' hm hl => simp [fsub, fspan] at e
    | r13 h h' hm hl => simp only [fsub, Fc.mk.injEq, true_and, and_true] at e; obtain ⟨rfl, rfl⟩ := e; exact Der.step (.r13 (h.span _ _ _ rfl) (h'.span _ _ _ rfl) trivial hl)
    | r14 hx hk h h1 h2 => simp only [fsub, Fc.mk.injEq, true_and, and_true] at e; obtain ⟨rfl, rfl⟩ := e; exact Der.step (.r14 hx hk (h.span _ _ _ rfl) h1 h2)
  · cases hy with
    | r1 h => simp [fsub, flink] at e
    | r2 h => simp [fsub, flink] at e
    | r10 hx hk h => simp only [flink, Fc.mk.injEq, true_and, and_true] at e; obtain ⟨rfl, rfl, rfl⟩ := e; exact .inr ⟨rfl, Der.step (.r10 hx hk ha)⟩
    | r3 hx hk h => simp [fsub, flink] at e
    | r4 hx hk h h' => simp [fsub, flink] at e
    | r5 hx hk h => simp only [flink, Fc.mk.injEq, true_and, and_true] at e; obtain ⟨rfl, rfl, rfl⟩ := e; exact .inl (Der.step (.r5 hx hk (h.sub _ rfl)))
    | r6 hx hk h =>
      simp only [flink, Fc.mk.injEq, true_and, and_true] at e; obtain ⟨rfl, rfl, rfl⟩ := e
      rcases h.link _ _ rfl with g | ⟨g0, g⟩
      · exact .inl (Der.step (.r6 hx hk g))
      · exact .inr ⟨g0, Der.step (.r6 hx hk g)⟩
    | r7 hx hk h h' =>
      simp only [flink, Fc.mk.injEq, true_and, and_true] at e; obtain ⟨rfl, rfl, rfl⟩ := e
      rcases h.link _ _ rfl with g | ⟨rfl, g⟩
      · exact .inl (Der.step (.r7 hx hk g h'.der))
      · rcases h'.link _ _ rfl with g' | ⟨g0, g'⟩
        · exact .inl (Der.step (.r7 hx hk g g'))
        · exact .inr ⟨g0, Der.step (.r7 hx hk g g')⟩
    | r8 hx hk h h' => simp [fsub, flink] at e
    | r9 h h' => simp [fsub, flink] at e
    | r11 hx hk h => simp [flink, fspan] at e
    | r12 h h' hm hl => simp [flink, fspan] at e
    | r13 h h' hm hl => simp [fsub, flink] at e
    | r14 hx hk h h1 h2 => simp [fsub, flink] at e
  · cases hy with
    | r1 h => simp [fsub, fspan] at e
    | r2 h => simp [fsub, fspan] at e
    | r10 hx hk h => simp [flink, fspan] at e
    | r3 hx hk h => simp [fsub, fspan] at e
    | r4 hx hk h h' => simp [fsub, fspan] at e
    | r5 hx hk h => simp [flink, fspan] at e
    | r6 hx hk h => simp [flink, fspan] at e
    | r7 hx hk h h' => simp [flink, fspan] at e
    | r8 hx hk h h' => simp [fsub, fspan] at e
    | r9 h h' => simp [fsub, fspan] at e
    | r11 hx hk h => simp only [fspan, Fc.mk.injEq, true_and, and_true] at e; obtain ⟨rfl, rfl, rfl, rfl⟩ := e; exact Der.step (.r11 hx hk (h.sub _ rfl))
    | r12 h h' hm hl => simp only [fspan, Fc.mk.injEq, true_and, and_true] at e; obtain ⟨rfl, rfl, rfl, rfl⟩ := e; exact Der.step (.r12 (h.span _ _ _ rfl) (h'.span _ _ _ rfl) trivial hl)
    | r13 h h' hm hl => simp [fsub, fspan] at e
    | r14 hx hk h h1 h2 => simp [fsub, fspan] at e
theorem derB_mem {fs : List Fc} {f : Fc} (h : f ∈ fs) : derB fs f = true := List.any_eq_true.2 ⟨f, h, by simp⟩
/-- a closure, as the law on transitivity asks -/
theorem tr_refl {p : List Pc} {m : Nat} {L : List Fc} {a : Str} (h : AllIs p (atS p) m (some L)) (ha : a ∈ atS p) : a ∈ abvL L a ∧ [42] ∈ abvL L a :=
  ⟨(abvL_mem L a a).2 ((h.2.1 _).2 (Der.step (.r1 ha))), (abvL_mem L a _).2 ((h.2.1 _).2 (Der.step (.r2 ha)))⟩
theorem tr_trans {p : List Pc} {m : Nat} {L : List Fc} {a b d : Str} (h : AllIs p (atS p) m (some L)) (ha : a ∈ atS p) (hb : b ∈ abvL L a) (hd : d ∈ abvL L b) : d ∈ abvL L a :=
  (abvL_mem L a d).2 ((h.2.1 _).2 ((der_lift ha ((h.2.1 _).1 ((abvL_mem L a b).1 hb)) ((h.2.1 _).1 ((abvL_mem L b d).1 hd))).sub _ rfl))
theorem tr_fact {p : List Pc} {m : Nat} {L : List Fc} {a : Str} {x : Fc} (hp : checkP p = 0) (h : AllIs p (atS p) m (some L)) (ha : a ∈ atS p) (hb : x.a ∈ abvL L a) (hx : x ∈ L) (hk : x.kind ≠ 1) :
    Fc.mk x.kind a x.b x.r x.lo x.hi ∈ L ∨ x.kind = 2 ∧ x.b = x.a ∧ Fc.mk x.kind a a x.r x.lo x.hi ∈ L := by
  have hab := (h.2.1 _).1 ((abvL_mem L a x.a).1 hb)
  have hdx := (h.2.1 _).1 hx
  have T := der_lift ha hab hdx
  have hf := hdx.form (check_vok hp)
  rcases form_kind hf with k | k | k
  · exact absurd k hk
  · have e := (form2 hf k).1
    rcases T.link _ _ e with g | ⟨g0, g⟩
    · left
      have := (h.2.1 _).2 g
      rw [e]; exact this
    · right
      refine ⟨k, g0, ?_⟩
      have := (h.2.1 _).2 g
      rw [e]; exact this
  · have e := (form3 hf k).1
    left
    have := (h.2.1 _).2 (T.span _ _ _ e)
    rw [e]; exact this
set_option maxHeartbeats 1000000 in
theorem satTrans_c (p : List Pc) (pad : Option Addr) (pcap : Nat) (hp : p.length ≤ 1099511627744) (hbig : ∀ x ∈ p, x.big) : Tri Tryz.prog 12 #[.slice pad (List.length p) pcap] [] [rowF pad (List.flatMap Pc.cells p), tabN] (fun _ : Unit => .bool true) (fun _ => []) (fun _ => []) := by
 refine tri_of_body Tryz.func12 rfl rfl Tryz.ntmps12 rfl fun v0 => ?_
 refine run_seq (run_region (ops_val (yld_assign rfl) rfl (ops_nil (fin_next rfl (run_seq (run_seq (run_region ?_)))))))
 refine ops_call (sane10_c) rfl pf_nil (fun v _ h => by exact ⟨h.2.1, trivial⟩) rfl fun _ => ?_
 refine ops_val (yld_not rfl) rfl ?_
 refine ops_nil (fin_next rfl (run_cond_f rfl (run_skip (fin_next rfl (run_seq (run_seq (run_region ?_)))))))
 refine ops_val (yld_move rfl) rfl (ops_call (few10_c p pad pcap hp hbig) rfl pf_nil (fun v _ h => by exact ⟨h.1, trivial⟩) rfl fun ⟨sb, hsb⟩ => ?_)
 dsimp only
 refine ops_val (yld_not rfl) rfl ?_
 refine ops_nil (fin_next rfl ?_)
 cases sb
 ·
  refine run_cond_t rfl (run_seq (run_region (ops_val (yld_assign rfl) rfl (ops_nil (fin_next rfl (run_ret ?_))))))
  exact ret1 Tryz.results12 () rfl pf_nil (fun _ _ _ => trivial)
 ·
  obtain ⟨hl40, hsm⟩ := hsb rfl
  refine run_cond_f rfl (run_skip (fin_next rfl (run_seq (run_region (ops_val (yld_move rfl) rfl (ops_call (all_c p pad pcap 500 hsm (by omega)) rfl pf_nil (fun v _ h => by exact ⟨h.1, h.2.1, trivial⟩) rfl fun ⟨⟨c1, e1⟩, hA1⟩ => ?_))))))
  dsimp only
  dsimp only at hA1
  refine ops_val (yld_move rfl) rfl (ops_val (yld_extract rfl rfl) rfl ?_)
  refine ops_val (yld_extract rfl rfl) rfl ?_
  refine ops_alloc Tryz.zeroValue28 rfl fun b1 => ?_
  refine ops_store 0 Tryz.sizeOf28 rfl rfl rfl rfl rfl rfl ?_
  refine ops_val (yld_assign rfl) rfl (ops_nil (fin_next rfl (run_seq (run_seq (run_region (ops_val (yld_move rfl) rfl (ops_valB (yld_neq rfl rfl) rfl fun r1 hr1 => ?_)))))))
  refine ops_nil (fin_next rfl ?_)
  cases r1
  ·
   replace hr1 := eq_of_bne hr1
   have he1 : e1 = 0 := hr1
   subst he1
   obtain ⟨hck, _, _, hcok, hat, hAl⟩ := hA1.good
   obtain ⟨hla, hlf⟩ := hA1.len
   have hsF : Srt (Cl.facts c1) := hAl.1
   refine run_cond_f rfl (run_skip (fin_next rfl (run_seq (run_seq (run_region (ops_val (yld_field Tryz.runUnderlying28 rfl rfl rfl Tryz.sizeOf25) rfl ?_))))))
   refine ops_val (yld_load 0 Tryz.isAgg25 rfl rfl rfl) rfl ?_
   refine ops_val (yld_lenS Tryz.runUnderlying25 rfl) rfl ?_
   refine ops_val (yld_move rfl) rfl (ops_nil (fin_next rfl (run_block (ok_fr [(2, .bool false), (3, .pointer (some ⟨b1, 0, none⟩)), (29, .slice (Cl.aad c1) (List.length (Cl.atoms c1)) (Cl.acap c1)), (30, .int .i64 (List.length (Cl.atoms c1) : Int)), (31, .int .i64 ((0 : Nat) : Int))] ⟨rfl, rfl, rfl, rfl, rfl, trivial⟩ ?_))))
   refine ok_weak (H' := ((b1, .cells #[.slice (Cl.aad c1) (List.length (Cl.atoms c1)) (Cl.acap c1), .slice (Cl.fad c1) (List.length (Cl.facts c1)) (Cl.fcap c1)] 28 (0, 0)) :: [])) (Γ' := [rowF (Cl.aad c1) (List.flatMap strC (Cl.atoms c1)), rowF (Cl.fad c1) (List.flatMap Fc.cells (Cl.facts c1)), rowF pad (List.flatMap Pc.cells p), tabN]) pf_here (fun v _ h => by exact ⟨h.1, h.2.1, h.2.2.1, h.2.2.2.1, trivial⟩) ?_
   refine run_loop (ι := {y : Nat // y ≤ List.length (Cl.atoms c1)}) (fun y => [(2, .bool false), (3, .pointer (some ⟨b1, 0, none⟩)), (29, .slice (Cl.aad c1) (List.length (Cl.atoms c1)) (Cl.acap c1)), (30, .int .i64 (List.length (Cl.atoms c1) : Int)), (31, .int .i64 (y.1 : Int))]) (fun y => ((b1, .cells #[.slice (Cl.aad c1) (List.length (Cl.atoms c1)) (Cl.acap c1), .slice (Cl.fad c1) (List.length (Cl.facts c1)) (Cl.fcap c1)] 28 (0, 0)) :: [])) (fun y => [rowF (Cl.aad c1) (List.flatMap strC (Cl.atoms c1)), rowF (Cl.fad c1) (List.flatMap Fc.cells (Cl.facts c1)), rowF pad (List.flatMap Pc.cells p), tabN]) (fun y => List.length (Cl.atoms c1) - y.1) ⟨(0 : Nat), by simp⟩ ?_
   rintro ⟨i, hi_i⟩
   dsimp only at hi_i ⊢
   refine ok_fr [(2, .bool false), (3, .pointer (some ⟨b1, 0, none⟩)), (29, .slice (Cl.aad c1) (List.length (Cl.atoms c1)) (Cl.acap c1)), (30, .int .i64 (List.length (Cl.atoms c1) : Int)), (31, .int .i64 (i : Int))] ⟨rfl, rfl, rfl, rfl, rfl, trivial⟩ ?_
   refine run_seq (run_region (ops_valB (yld_lss rfl rfl) rfl fun r2 hr2 => ?_))
   refine ops_nil (fin_next rfl (run_seq ?_))
   cases r2
   ·
    replace hr2 := of_decide_eq_false hr2
    refine run_cond_f rfl (run_exit rfl (fin_next rfl (run_seq (run_region (ops_val (yld_assign rfl) rfl (ops_nil (fin_next rfl ?_)))))))
    refine run_ret ?_
    exact ret1 Tryz.results12 () rfl pf_nil (fun _ _ _ => trivial)
   ·
    replace hr2 := of_decide_eq_true hr2
    have hlx1 : i < List.length (Cl.atoms c1) := by omega
    obtain ⟨x1, hx1⟩ : ∃ e0, (Cl.atoms c1)[i]? = some e0 := ⟨_, List.getElem?_eq_getElem hlx1⟩
    have hmx1 : x1 ∈ (Cl.atoms c1) := List.mem_of_getElem? hx1
    refine run_cond_t rfl (run_skip (fin_next rfl (run_seq (run_block (run_seq (run_region (ops_val (yld_indexR Tryz.runUnderlying25 Tryz.sizeOf9 rfl rfl (fun v _ h => row_adr (n := 1) strC_len (by decide) (by exact h.1) hx1) (by omega) (by first | omega | (simp; done))) rfl ?_)))))))
    refine ops_val (yld_loadR (ad := (Cl.aad c1)) Tryz.isAgg9 rfl (fun v _ h => by exact h.1) (row_cells strC_len hx1 0 _ rfl)) rfl ?_
    refine ops_val (yld_assign rfl) rfl (ops_nil (fin_next rfl (run_seq (run_region (ops_val (yld_loadS 0 Tryz.isAgg28 Tryz.sizeOf28 rfl rfl rfl) rfl ?_)))))
    refine ops_val (yld_move rfl) rfl (ops_call (abv_c c1 x1 (by omega)) rfl pf_nil (fun v _ h => by exact ⟨h.2.1, trivial⟩) rfl fun ⟨⟨vad1, vcap1⟩, hvc1, hvm1, hvz1⟩ => ?_)
    dsimp only
    have hvl1 := abvL_len (Cl.facts c1) x1
    refine ops_val (yld_assign rfl) rfl (ops_nil (fin_next rfl (run_seq (run_seq (run_region (ops_val (yld_move rfl) rfl (ops_val (yld_move rfl) rfl ?_)))))))
    refine ops_callB (member_c (abvL (Cl.facts c1) x1) vad1 vcap1 x1 (by omega)) rfl pf_nil (fun v _ h => by exact ⟨h.1, trivial⟩) rfl fun r3 hr3 => ?_
    refine ops_val (yld_not rfl) rfl ?_
    refine ops_val (yld_move rfl) rfl ?_
    cases r3
    ·
     replace hr3 := dF hr3
     exact absurd (tr_refl hAl (hat ▸ hmx1)).1 hr3
    ·
     replace hr3 := dT hr3
     refine ops_yes rfl rfl (ops_val (yld_move rfl) rfl (ops_yes rfl rfl (ops_callB (member_c (abvL (Cl.facts c1) x1) vad1 vcap1 [42] (by omega)) rfl pf_nil (fun v _ h => by exact ⟨h.1, trivial⟩) rfl fun r4 hr4 => ?_)))
     refine ops_yes rfl rfl (ops_val (yld_not rfl) rfl ?_)
     refine ops_val (yld_pick_f rfl rfl) rfl ?_
     refine ops_nil (fin_next rfl ?_)
     cases r4
     ·
      replace hr4 := dF hr4
      exact absurd (tr_refl hAl (hat ▸ hmx1)).2 hr4
     ·
      replace hr4 := dT hr4
      refine run_cond_f rfl (run_skip (fin_next rfl (run_seq (run_region (ops_val (yld_move rfl) rfl (ops_val (yld_lenS Tryz.runUnderlying25 rfl) rfl ?_))))))
      refine ops_val (yld_move rfl) rfl (ops_nil (fin_next rfl (run_block (ok_fr [(2, .bool false), (3, .pointer (some ⟨b1, 0, none⟩)), (29, .slice (Cl.aad c1) (List.length (Cl.atoms c1)) (Cl.acap c1)), (30, .int .i64 (List.length (Cl.atoms c1) : Int)), (31, .int .i64 (i : Int)), (6, str x1), (7, .slice vad1 (List.length (abvL (Cl.facts c1) x1)) vcap1), (47, .slice vad1 (List.length (abvL (Cl.facts c1) x1)) vcap1), (48, .int .i64 (List.length (abvL (Cl.facts c1) x1) : Int)), (49, .int .i64 ((0 : Nat) : Int))] ⟨rfl, rfl, rfl, rfl, rfl, rfl, rfl, rfl, rfl, rfl, trivial⟩ ?_))))
      refine ok_weak (H' := ((b1, .cells #[.slice (Cl.aad c1) (List.length (Cl.atoms c1)) (Cl.acap c1), .slice (Cl.fad c1) (List.length (Cl.facts c1)) (Cl.fcap c1)] 28 (0, 0)) :: [])) (Γ' := [rowF vad1 (List.flatMap strC (abvL (Cl.facts c1) x1)), rowF (Cl.aad c1) (List.flatMap strC (Cl.atoms c1)), rowF (Cl.fad c1) (List.flatMap Fc.cells (Cl.facts c1)), rowF pad (List.flatMap Pc.cells p), tabN]) pf_here (fun v _ h => by exact ⟨h.1, h.2.1, h.2.2.1, h.2.2.2.1, h.2.2.2.2.1, trivial⟩) ?_
      refine run_loop (ι := {y : Nat // y ≤ List.length (abvL (Cl.facts c1) x1)}) (fun y => [(2, .bool false), (3, .pointer (some ⟨b1, 0, none⟩)), (29, .slice (Cl.aad c1) (List.length (Cl.atoms c1)) (Cl.acap c1)), (30, .int .i64 (List.length (Cl.atoms c1) : Int)), (31, .int .i64 (i : Int)), (6, str x1), (7, .slice vad1 (List.length (abvL (Cl.facts c1) x1)) vcap1), (47, .slice vad1 (List.length (abvL (Cl.facts c1) x1)) vcap1), (48, .int .i64 (List.length (abvL (Cl.facts c1) x1) : Int)), (49, .int .i64 (y.1 : Int))]) (fun y => ((b1, .cells #[.slice (Cl.aad c1) (List.length (Cl.atoms c1)) (Cl.acap c1), .slice (Cl.fad c1) (List.length (Cl.facts c1)) (Cl.fcap c1)] 28 (0, 0)) :: [])) (fun y => [rowF vad1 (List.flatMap strC (abvL (Cl.facts c1) x1)), rowF (Cl.aad c1) (List.flatMap strC (Cl.atoms c1)), rowF (Cl.fad c1) (List.flatMap Fc.cells (Cl.facts c1)), rowF pad (List.flatMap Pc.cells p), tabN]) (fun y => List.length (abvL (Cl.facts c1) x1) - y.1) ⟨(0 : Nat), by simp⟩ ?_
      rintro ⟨j, hi_j⟩
      dsimp only at hi_j ⊢
      refine ok_fr [(2, .bool false), (3, .pointer (some ⟨b1, 0, none⟩)), (29, .slice (Cl.aad c1) (List.length (Cl.atoms c1)) (Cl.acap c1)), (30, .int .i64 (List.length (Cl.atoms c1) : Int)), (31, .int .i64 (i : Int)), (6, str x1), (7, .slice vad1 (List.length (abvL (Cl.facts c1) x1)) vcap1), (47, .slice vad1 (List.length (abvL (Cl.facts c1) x1)) vcap1), (48, .int .i64 (List.length (abvL (Cl.facts c1) x1) : Int)), (49, .int .i64 (j : Int))] ⟨rfl, rfl, rfl, rfl, rfl, rfl, rfl, rfl, rfl, rfl, trivial⟩ ?_
      refine run_seq (run_region (ops_valB (yld_lss rfl rfl) rfl fun r5 hr5 => ?_))
      refine ops_nil (fin_next rfl (run_seq ?_))
      cases r5
      ·
       replace hr5 := of_decide_eq_false hr5
       refine run_cond_f rfl (run_exit rfl (fin_next rfl (run_region (ops_val (yld_arith rfl rfl rfl (wrap64 (by omega) (by omega))) rfl ?_))))
       refine ops_val (yld_move rfl) rfl (ops_nil (fin_inv rfl ?_))
       exact ok_again ⟨i + 1, hlx1⟩ (by dsimp only; omega) ⟨rfl, rfl, rfl, rfl, rfl, trivial⟩ pf_here (fun v _ h => by exact ⟨h.2.1, h.2.2.1, h.2.2.2.1, h.2.2.2.2.1, trivial⟩)
      ·
       replace hr5 := of_decide_eq_true hr5
       have hlx2 : j < List.length (abvL (Cl.facts c1) x1) := by omega
       obtain ⟨x2, hx2⟩ : ∃ e0, (abvL (Cl.facts c1) x1)[j]? = some e0 := ⟨_, List.getElem?_eq_getElem hlx2⟩
       have hmx2 : x2 ∈ (abvL (Cl.facts c1) x1) := List.mem_of_getElem? hx2
       refine run_cond_t rfl (run_skip (fin_next rfl (run_seq (run_block (run_seq (run_region (ops_val (yld_indexR Tryz.runUnderlying25 Tryz.sizeOf9 rfl rfl (fun v _ h => row_adr (n := 1) strC_len (by decide) (by exact h.1) hx2) (by omega) (by first | omega | (simp; done))) rfl ?_)))))))
       refine ops_val (yld_loadR (ad := vad1) Tryz.isAgg9 rfl (fun v _ h => by exact h.1) (row_cells strC_len hx2 0 _ rfl)) rfl ?_
       refine ops_val (yld_assign rfl) rfl (ops_nil (fin_next rfl (run_seq (run_seq ?_))))
       refine run_draw' (by kernel_rfl) ?_
       refine any_sq 3 [0, 1, 2] (by kernel_rfl) (fun _ a b => ⟨a, b⟩) ?_
       refine sq_val rfl (yld_loadS 0 Tryz.isAgg28 Tryz.sizeOf28 rfl rfl rfl) rfl ?_
       refine sq_val rfl (yld_move rfl) rfl ?_
       refine sq_val rfl (yld_move rfl) rfl ?_
       refine sq_nil ?_
       refine any_one 3 rfl (by kernel_rfl) ?_
       refine ops_call (rsub_c x1 x2) rfl pf_nil (fun _ _ _ => by exact trivial) rfl fun _ => ?_
       refine ops_nil (fin_inv rfl (any_next (fun _ a b => ⟨a, b⟩) ?_))
       refine any_one 4 rfl (by kernel_rfl) ?_
       refine ops_callB (der_c c1 (fsub x1 x2) (by omega)) rfl pf_nil (fun v _ h => by exact ⟨h.2.2.1, trivial⟩) rfl fun r6 hr6 => ?_
       refine ops_nil (fin_inv rfl (any_next (fun _ a b => ⟨a, b⟩) ?_))
       refine any_sq 0 [5] (by kernel_rfl) (fun _ a b => ⟨a, b⟩) ?_
       refine sq_val rfl (yld_not rfl) rfl ?_
       refine sq_nil ?_
       refine any_done (by kernel_rfl) ?_
       refine fin_next rfl ?_
       cases r6
       ·
        rw [derB_mem ((abvL_mem _ _ _).1 hmx2)] at hr6; cases hr6
       ·
        refine run_cond_f rfl (run_skip (fin_next rfl (run_seq (run_seq (run_region (ops_val (yld_loadS 0 Tryz.isAgg28 Tryz.sizeOf28 rfl rfl rfl) rfl ?_))))))
        refine ops_val (yld_move rfl) rfl (ops_call (abv_c c1 x2 (by omega)) rfl pf_nil (fun v _ h => by exact ⟨h.2.2.1, trivial⟩) rfl fun ⟨⟨vad2, vcap2⟩, hvc2, hvm2, hvz2⟩ => ?_)
        dsimp only
        have hvl2 := abvL_len (Cl.facts c1) x2
        refine ops_val (yld_lenS Tryz.runUnderlying25 rfl) rfl ?_
        refine ops_val (yld_move rfl) rfl (ops_nil (fin_next rfl (run_block (ok_fr [(2, .bool false), (3, .pointer (some ⟨b1, 0, none⟩)), (29, .slice (Cl.aad c1) (List.length (Cl.atoms c1)) (Cl.acap c1)), (30, .int .i64 (List.length (Cl.atoms c1) : Int)), (31, .int .i64 (i : Int)), (6, str x1), (7, .slice vad1 (List.length (abvL (Cl.facts c1) x1)) vcap1), (47, .slice vad1 (List.length (abvL (Cl.facts c1) x1)) vcap1), (48, .int .i64 (List.length (abvL (Cl.facts c1) x1) : Int)), (49, .int .i64 (j : Int)), (9, str x2), (61, .slice vad2 (List.length (abvL (Cl.facts c1) x2)) vcap2), (62, .int .i64 (List.length (abvL (Cl.facts c1) x2) : Int)), (63, .int .i64 ((0 : Nat) : Int))] ⟨rfl, rfl, rfl, rfl, rfl, rfl, rfl, rfl, rfl, rfl, rfl, rfl, rfl, rfl, trivial⟩ ?_))))
        refine ok_weak (H' := ((b1, .cells #[.slice (Cl.aad c1) (List.length (Cl.atoms c1)) (Cl.acap c1), .slice (Cl.fad c1) (List.length (Cl.facts c1)) (Cl.fcap c1)] 28 (0, 0)) :: [])) (Γ' := [rowF vad2 (List.flatMap strC (abvL (Cl.facts c1) x2)), rowF vad1 (List.flatMap strC (abvL (Cl.facts c1) x1)), rowF (Cl.aad c1) (List.flatMap strC (Cl.atoms c1)), rowF (Cl.fad c1) (List.flatMap Fc.cells (Cl.facts c1)), rowF pad (List.flatMap Pc.cells p), tabN]) pf_here (fun v _ h => by exact ⟨h.1, h.2.1, h.2.2.1, h.2.2.2.1, h.2.2.2.2.1, h.2.2.2.2.2.1, trivial⟩) ?_
        refine run_loop (ι := {y : Nat // y ≤ List.length (abvL (Cl.facts c1) x2)}) (fun y => [(2, .bool false), (3, .pointer (some ⟨b1, 0, none⟩)), (29, .slice (Cl.aad c1) (List.length (Cl.atoms c1)) (Cl.acap c1)), (30, .int .i64 (List.length (Cl.atoms c1) : Int)), (31, .int .i64 (i : Int)), (6, str x1), (7, .slice vad1 (List.length (abvL (Cl.facts c1) x1)) vcap1), (47, .slice vad1 (List.length (abvL (Cl.facts c1) x1)) vcap1), (48, .int .i64 (List.length (abvL (Cl.facts c1) x1) : Int)), (49, .int .i64 (j : Int)), (9, str x2), (61, .slice vad2 (List.length (abvL (Cl.facts c1) x2)) vcap2), (62, .int .i64 (List.length (abvL (Cl.facts c1) x2) : Int)), (63, .int .i64 (y.1 : Int))]) (fun y => ((b1, .cells #[.slice (Cl.aad c1) (List.length (Cl.atoms c1)) (Cl.acap c1), .slice (Cl.fad c1) (List.length (Cl.facts c1)) (Cl.fcap c1)] 28 (0, 0)) :: [])) (fun y => [rowF vad2 (List.flatMap strC (abvL (Cl.facts c1) x2)), rowF vad1 (List.flatMap strC (abvL (Cl.facts c1) x1)), rowF (Cl.aad c1) (List.flatMap strC (Cl.atoms c1)), rowF (Cl.fad c1) (List.flatMap Fc.cells (Cl.facts c1)), rowF pad (List.flatMap Pc.cells p), tabN]) (fun y => List.length (abvL (Cl.facts c1) x2) - y.1) ⟨(0 : Nat), by simp⟩ ?_
        rintro ⟨k, hi_k⟩
        dsimp only at hi_k ⊢
        refine ok_fr [(2, .bool false), (3, .pointer (some ⟨b1, 0, none⟩)), (29, .slice (Cl.aad c1) (List.length (Cl.atoms c1)) (Cl.acap c1)), (30, .int .i64 (List.length (Cl.atoms c1) : Int)), (31, .int .i64 (i : Int)), (6, str x1), (7, .slice vad1 (List.length (abvL (Cl.facts c1) x1)) vcap1), (47, .slice vad1 (List.length (abvL (Cl.facts c1) x1)) vcap1), (48, .int .i64 (List.length (abvL (Cl.facts c1) x1) : Int)), (49, .int .i64 (j : Int)), (9, str x2), (61, .slice vad2 (List.length (abvL (Cl.facts c1) x2)) vcap2), (62, .int .i64 (List.length (abvL (Cl.facts c1) x2) : Int)), (63, .int .i64 (k : Int))] ⟨rfl, rfl, rfl, rfl, rfl, rfl, rfl, rfl, rfl, rfl, rfl, rfl, rfl, rfl, trivial⟩ ?_
        refine run_seq (run_region (ops_valB (yld_lss rfl rfl) rfl fun r7 hr7 => ?_))
        refine ops_nil (fin_next rfl (run_seq ?_))
        cases r7
        ·
         replace hr7 := of_decide_eq_false hr7
         refine run_cond_f rfl (run_exit rfl (fin_next rfl (run_seq (run_region (ops_val (yld_field Tryz.runUnderlying28 rfl rfl rfl Tryz.sizeOf26) rfl ?_)))))
         refine ops_val (yld_load 0 Tryz.isAgg26 rfl rfl rfl) rfl ?_
         refine ops_val (yld_lenS Tryz.runUnderlying26 rfl) rfl ?_
         refine ops_val (yld_move rfl) rfl (ops_nil (fin_next rfl (run_block (ok_fr [(2, .bool false), (3, .pointer (some ⟨b1, 0, none⟩)), (29, .slice (Cl.aad c1) (List.length (Cl.atoms c1)) (Cl.acap c1)), (30, .int .i64 (List.length (Cl.atoms c1) : Int)), (31, .int .i64 (i : Int)), (6, str x1), (7, .slice vad1 (List.length (abvL (Cl.facts c1) x1)) vcap1), (47, .slice vad1 (List.length (abvL (Cl.facts c1) x1)) vcap1), (48, .int .i64 (List.length (abvL (Cl.facts c1) x1) : Int)), (49, .int .i64 (j : Int)), (9, str x2), (61, .slice vad2 (List.length (abvL (Cl.facts c1) x2)) vcap2), (62, .int .i64 (List.length (abvL (Cl.facts c1) x2) : Int)), (63, .int .i64 (k : Int)), (73, .slice (Cl.fad c1) (List.length (Cl.facts c1)) (Cl.fcap c1)), (74, .int .i64 (List.length (Cl.facts c1) : Int)), (75, .int .i64 ((0 : Nat) : Int))] ⟨rfl, rfl, rfl, rfl, rfl, rfl, rfl, rfl, rfl, rfl, rfl, rfl, rfl, rfl, rfl, rfl, rfl, trivial⟩ ?_))))
         refine ok_weak (H' := ((b1, .cells #[.slice (Cl.aad c1) (List.length (Cl.atoms c1)) (Cl.acap c1), .slice (Cl.fad c1) (List.length (Cl.facts c1)) (Cl.fcap c1)] 28 (0, 0)) :: [])) (Γ' := [rowF vad2 (List.flatMap strC (abvL (Cl.facts c1) x2)), rowF vad1 (List.flatMap strC (abvL (Cl.facts c1) x1)), rowF (Cl.aad c1) (List.flatMap strC (Cl.atoms c1)), rowF (Cl.fad c1) (List.flatMap Fc.cells (Cl.facts c1)), rowF pad (List.flatMap Pc.cells p), tabN]) pf_here (fun v _ h => by exact ⟨h.1, h.2.1, h.2.2.1, h.2.2.2.1, h.2.2.2.2.1, h.2.2.2.2.2.1, trivial⟩) ?_
         refine run_loop (ι := {y : Nat // y ≤ List.length (Cl.facts c1)}) (fun y => [(2, .bool false), (3, .pointer (some ⟨b1, 0, none⟩)), (29, .slice (Cl.aad c1) (List.length (Cl.atoms c1)) (Cl.acap c1)), (30, .int .i64 (List.length (Cl.atoms c1) : Int)), (31, .int .i64 (i : Int)), (6, str x1), (7, .slice vad1 (List.length (abvL (Cl.facts c1) x1)) vcap1), (47, .slice vad1 (List.length (abvL (Cl.facts c1) x1)) vcap1), (48, .int .i64 (List.length (abvL (Cl.facts c1) x1) : Int)), (49, .int .i64 (j : Int)), (9, str x2), (61, .slice vad2 (List.length (abvL (Cl.facts c1) x2)) vcap2), (62, .int .i64 (List.length (abvL (Cl.facts c1) x2) : Int)), (63, .int .i64 (k : Int)), (73, .slice (Cl.fad c1) (List.length (Cl.facts c1)) (Cl.fcap c1)), (74, .int .i64 (List.length (Cl.facts c1) : Int)), (75, .int .i64 (y.1 : Int))]) (fun y => ((b1, .cells #[.slice (Cl.aad c1) (List.length (Cl.atoms c1)) (Cl.acap c1), .slice (Cl.fad c1) (List.length (Cl.facts c1)) (Cl.fcap c1)] 28 (0, 0)) :: [])) (fun y => [rowF vad2 (List.flatMap strC (abvL (Cl.facts c1) x2)), rowF vad1 (List.flatMap strC (abvL (Cl.facts c1) x1)), rowF (Cl.aad c1) (List.flatMap strC (Cl.atoms c1)), rowF (Cl.fad c1) (List.flatMap Fc.cells (Cl.facts c1)), rowF pad (List.flatMap Pc.cells p), tabN]) (fun y => List.length (Cl.facts c1) - y.1) ⟨(0 : Nat), by simp⟩ ?_
         rintro ⟨m, hi_m⟩
         dsimp only at hi_m ⊢
         refine ok_fr [(2, .bool false), (3, .pointer (some ⟨b1, 0, none⟩)), (29, .slice (Cl.aad c1) (List.length (Cl.atoms c1)) (Cl.acap c1)), (30, .int .i64 (List.length (Cl.atoms c1) : Int)), (31, .int .i64 (i : Int)), (6, str x1), (7, .slice vad1 (List.length (abvL (Cl.facts c1) x1)) vcap1), (47, .slice vad1 (List.length (abvL (Cl.facts c1) x1)) vcap1), (48, .int .i64 (List.length (abvL (Cl.facts c1) x1) : Int)), (49, .int .i64 (j : Int)), (9, str x2), (61, .slice vad2 (List.length (abvL (Cl.facts c1) x2)) vcap2), (62, .int .i64 (List.length (abvL (Cl.facts c1) x2) : Int)), (63, .int .i64 (k : Int)), (73, .slice (Cl.fad c1) (List.length (Cl.facts c1)) (Cl.fcap c1)), (74, .int .i64 (List.length (Cl.facts c1) : Int)), (75, .int .i64 (m : Int))] ⟨rfl, rfl, rfl, rfl, rfl, rfl, rfl, rfl, rfl, rfl, rfl, rfl, rfl, rfl, rfl, rfl, rfl, trivial⟩ ?_
         refine run_seq (run_region (ops_valB (yld_lss rfl rfl) rfl fun r8 hr8 => ?_))
         refine ops_nil (fin_next rfl (run_seq ?_))
         cases r8
         ·
          replace hr8 := of_decide_eq_false hr8
          refine run_cond_f rfl (run_exit rfl (fin_next rfl (run_region (ops_val (yld_arith rfl rfl rfl (wrap64 (by omega) (by omega))) rfl ?_))))
          refine ops_val (yld_move rfl) rfl (ops_nil (fin_inv rfl ?_))
          exact ok_again ⟨j + 1, hlx2⟩ (by dsimp only; omega) ⟨rfl, rfl, rfl, rfl, rfl, rfl, rfl, rfl, rfl, rfl, trivial⟩ pf_here (fun v _ h => by exact ⟨h.2.1, h.2.2.1, h.2.2.2.1, h.2.2.2.2.1, h.2.2.2.2.2.1, trivial⟩)
         ·
          replace hr8 := of_decide_eq_true hr8
          have hlx4 : m < List.length (Cl.facts c1) := by omega
          obtain ⟨x4, hx4⟩ : ∃ e0, (Cl.facts c1)[m]? = some e0 := ⟨_, List.getElem?_eq_getElem hlx4⟩
          have hmx4 : x4 ∈ (Cl.facts c1) := List.mem_of_getElem? hx4
          refine run_cond_t rfl (run_skip (fin_next rfl (run_seq (run_block (run_seq (run_region (ops_val (yld_indexR Tryz.runUnderlying26 Tryz.sizeOf41 rfl rfl (fun v _ h => row_adr (n := 6) Fc.cells_len (by decide) (by exact h.2.2.2.1) hx4) (by omega) (by first | omega | (simp; done))) rfl ?_)))))))
          refine ops_val (yld_loadRS (ad := (Cl.fad c1)) (us := Fc.cells x4) Tryz.isAgg41 Tryz.sizeOf41 rfl (fun v _ h => by exact h.2.2.2.1) (Fc.cells_len _) (row_cells Fc.cells_len hx4)) rfl ?_
          refine ops_alloc Tryz.zeroValue41 rfl fun b2 => ?_
          refine ops_store 0 Tryz.sizeOf41 rfl rfl rfl rfl rfl rfl ?_
          refine ops_nil (fin_next rfl (run_seq (run_seq (run_region (ops_val (yld_field Tryz.runUnderlying41 rfl rfl rfl Tryz.sizeOf9) rfl ?_)))))
          refine ops_val (yld_load 0 Tryz.isAgg9 rfl rfl rfl) rfl ?_
          refine ops_val (yld_move rfl) rfl (ops_valB (yld_sneq rfl rfl) rfl fun r9 hr9 => ?_)
          refine ops_val (yld_move rfl) rfl ?_
          cases r9
          ·
           replace hr9 := eq_of_bne hr9
           have hxb := hr9
           refine ops_yes rfl rfl (ops_val (yld_field Tryz.runUnderlying41 rfl rfl rfl Tryz.sizeOf3) rfl ?_)
           refine ops_yes rfl rfl (ops_val (yld_load 0 Tryz.isAgg3 rfl rfl rfl) rfl ?_)
           refine ops_yes rfl rfl (ops_valB (yld_eql rfl rfl) rfl fun r10 hr10 => ?_)
           refine ops_val (yld_pick_f rfl rfl) rfl ?_
           refine ops_nil (fin_next rfl ?_)
           cases r10
           ·
            replace hr10 := ne_of_beq_false hr10
            refine run_cond_f rfl (run_skip (fin_next rfl (run_seq (run_region (ops_val (yld_loadS 0 Tryz.isAgg41 Tryz.sizeOf41 rfl rfl rfl) rfl ?_)))))
            refine ops_alloc Tryz.zeroValue41 rfl fun b3 => ?_
            refine ops_store 0 Tryz.sizeOf41 rfl rfl rfl rfl rfl rfl ?_
            refine ops_nil (fin_next rfl (run_seq (run_region (ops_val (yld_move rfl) rfl (ops_val (yld_field Tryz.runUnderlying41 rfl rfl rfl Tryz.sizeOf9) rfl ?_)))))
            refine ops_store 0 Tryz.sizeOf9 rfl rfl rfl rfl rfl rfl ?_
            refine ops_nil (fin_next rfl (run_seq (run_region (ops_val (yld_loadS 0 Tryz.isAgg41 Tryz.sizeOf41 rfl rfl rfl) rfl ?_))))
            refine ops_alloc Tryz.zeroValue41 rfl fun b4 => ?_
            refine ops_store 0 Tryz.sizeOf41 rfl rfl rfl rfl rfl rfl ?_
            refine ops_nil (fin_next rfl (run_seq (run_region (ops_val (yld_move rfl) rfl (ops_val (yld_field Tryz.runUnderlying41 rfl rfl rfl Tryz.sizeOf9) rfl ?_)))))
            refine ops_store 0 Tryz.sizeOf9 rfl rfl rfl rfl rfl rfl ?_
            refine ops_nil (fin_next rfl (run_seq (run_region (ops_val (yld_field Tryz.runUnderlying28 rfl rfl rfl Tryz.sizeOf26) rfl ?_))))
            refine ops_val (yld_load 3 Tryz.isAgg26 rfl rfl rfl) rfl ?_
            refine ops_val (yld_loadS 1 Tryz.isAgg41 Tryz.sizeOf41 rfl rfl rfl) rfl ?_
            refine ops_callB (has_c (Cl.facts c1) (Cl.fad c1) (Cl.fcap c1) (Fc.mk (Fc.kind x4) x1 (Fc.b x4) (Fc.r x4) (Fc.lo x4) (Fc.hi x4)) (by omega) hsF) rfl pf_nil (fun v _ h => by exact ⟨h.2.2.2.1, trivial⟩) rfl fun r11 hr11 => ?_
            refine ops_val (yld_not rfl) rfl ?_
            refine ops_val (yld_move rfl) rfl ?_
            cases r11
            ·
             replace hr11 := dF hr11
             refine ops_yes rfl rfl (ops_val (yld_field Tryz.runUnderlying41 rfl rfl rfl Tryz.sizeOf3) rfl ?_)
             refine ops_yes rfl rfl (ops_val (yld_load 2 Tryz.isAgg3 rfl rfl rfl) rfl ?_)
             refine ops_yes rfl rfl (ops_valB (yld_neq rfl rfl) rfl fun r12 hr12 => ?_)
             refine ops_yes rfl rfl (ops_val (yld_move rfl) rfl ?_)
             cases r12
             ·
              replace hr12 := eq_of_bne hr12
              refine ops_yes rfl rfl (ops_val (yld_field Tryz.runUnderlying41 rfl rfl rfl Tryz.sizeOf9) rfl ?_)
              refine ops_yes rfl rfl (ops_val (yld_load 2 Tryz.isAgg9 rfl rfl rfl) rfl ?_)
              refine ops_yes rfl rfl (ops_val (yld_move rfl) rfl (ops_yes rfl rfl (ops_valB (yld_sneq rfl rfl) rfl fun r13 hr13 => ?_)))
              refine ops_yes rfl rfl (ops_val (yld_pick_f rfl rfl) rfl ?_)
              refine ops_yes rfl rfl (ops_val (yld_move rfl) rfl ?_)
              cases r13
              ·
               replace hr13 := eq_of_bne hr13
               refine ops_yes rfl rfl (ops_val (yld_field Tryz.runUnderlying28 rfl rfl rfl Tryz.sizeOf26) rfl ?_)
               refine ops_yes rfl rfl (ops_val (yld_load 3 Tryz.isAgg26 rfl rfl rfl) rfl ?_)
               refine ops_yes rfl rfl (ops_val (yld_loadS 0 Tryz.isAgg41 Tryz.sizeOf41 rfl rfl rfl) rfl ?_)
               refine ops_yes rfl rfl (ops_callB (has_c (Cl.facts c1) (Cl.fad c1) (Cl.fcap c1) (Fc.mk (Fc.kind x4) x1 x1 (Fc.r x4) (Fc.lo x4) (Fc.hi x4)) (by omega) hsF) rfl pf_nil (fun v _ h => by exact ⟨h.2.2.2.1, trivial⟩) rfl fun r14 hr14 => ?_)
               refine ops_yes rfl rfl (ops_val (yld_not rfl) rfl ?_)
               refine ops_yes rfl rfl (ops_val (yld_pick_f rfl rfl) rfl ?_)
               refine ops_val (yld_pick_t rfl rfl) rfl ?_
               refine ops_nil (fin_next rfl ?_)
               cases r14
               ·
                replace hr14 := dF hr14
                refine run_cond_t rfl (run_seq ?_)
                exfalso
                rcases tr_fact hck hAl (hat ▸ hmx1) (by rw [hxb]; exact hmx2) hmx4 (by assumption) with h | ⟨h1, h2, h3⟩
                · exact absurd h (by assumption)
                · first | exact absurd h1 (by assumption) | exact absurd (h2.trans hxb) (by assumption) | exact absurd h3 (by assumption)
               ·
                replace hr14 := dT hr14
                refine run_cond_f rfl (run_skip (fin_next rfl (run_region (ops_val (yld_arith rfl rfl rfl (wrap64 (by omega) (by omega))) rfl ?_))))
                refine ops_val (yld_move rfl) rfl (ops_nil (fin_inv rfl ?_))
                exact ok_again ⟨m + 1, hlx4⟩ (by dsimp only; omega) ⟨rfl, rfl, rfl, rfl, rfl, rfl, rfl, rfl, rfl, rfl, rfl, rfl, rfl, rfl, rfl, rfl, rfl, trivial⟩ (pf_cons (pf_cons (pf_cons pf_here))) (fun v _ h => by exact ⟨h.1, h.2.1, h.2.2.1, h.2.2.2.1, h.2.2.2.2.1, h.2.2.2.2.2.1, trivial⟩)
              ·
               replace hr13 := ne_of_bne hr13
               refine ops_no rfl rfl rfl rfl (ops_no rfl rfl rfl rfl (ops_no rfl rfl rfl rfl (ops_no rfl rfl rfl rfl (ops_no rfl rfl rfl rfl (ops_yes rfl rfl (ops_val (yld_pick_t rfl rfl) rfl ?_))))))
               refine ops_val (yld_pick_t rfl rfl) rfl ?_
               refine ops_nil (fin_next rfl (run_cond_t rfl (run_seq ?_)))
               exfalso
               rcases tr_fact hck hAl (hat ▸ hmx1) (by rw [hxb]; exact hmx2) hmx4 (by assumption) with h | ⟨h1, h2, h3⟩
               · exact absurd h (by assumption)
               · first | exact absurd h1 (by assumption) | exact absurd (h2.trans hxb) (by assumption) | exact absurd h3 (by assumption)
             ·
              replace hr12 := ne_of_bne hr12
              refine ops_no rfl rfl rfl rfl (ops_no rfl rfl rfl rfl (ops_no rfl rfl rfl rfl (ops_no rfl rfl rfl rfl (ops_yes rfl rfl (ops_val (yld_pick_t rfl rfl) rfl ?_)))))
              refine ops_yes rfl rfl (ops_val (yld_move rfl) rfl (ops_no rfl rfl rfl rfl (ops_no rfl rfl rfl rfl (ops_no rfl rfl rfl rfl (ops_no rfl rfl rfl rfl (ops_no rfl rfl rfl rfl (ops_yes rfl rfl ?_)))))))
              refine ops_val (yld_pick_t rfl rfl) rfl ?_
              refine ops_val (yld_pick_t rfl rfl) rfl ?_
              refine ops_nil (fin_next rfl (run_cond_t rfl (run_seq ?_)))
              exfalso
              rcases tr_fact hck hAl (hat ▸ hmx1) (by rw [hxb]; exact hmx2) hmx4 (by assumption) with h | ⟨h1, h2, h3⟩
              · exact absurd h (by assumption)
              · first | exact absurd h1 (by assumption) | exact absurd (h2.trans hxb) (by assumption) | exact absurd h3 (by assumption)
            ·
             replace hr11 := dT hr11
             refine ops_no rfl rfl rfl rfl (ops_no rfl rfl rfl rfl (ops_no rfl rfl rfl rfl (ops_no rfl rfl rfl rfl (ops_no rfl rfl rfl rfl (ops_no rfl rfl rfl rfl (ops_no rfl rfl rfl rfl (ops_no rfl rfl rfl rfl ?_)))))))
             refine ops_no rfl rfl rfl rfl (ops_no rfl rfl rfl rfl (ops_no rfl rfl rfl rfl (ops_no rfl rfl rfl rfl (ops_no rfl rfl rfl rfl (ops_no rfl rfl rfl rfl (ops_no rfl rfl rfl rfl (ops_no rfl rfl rfl rfl ?_)))))))
             refine ops_val (yld_pick_f rfl rfl) rfl ?_
             refine ops_nil (fin_next rfl (run_cond_f rfl (run_skip (fin_next rfl (run_region (ops_val (yld_arith rfl rfl rfl (wrap64 (by omega) (by omega))) rfl ?_))))))
             refine ops_val (yld_move rfl) rfl (ops_nil (fin_inv rfl ?_))
             exact ok_again ⟨m + 1, hlx4⟩ (by dsimp only; omega) ⟨rfl, rfl, rfl, rfl, rfl, rfl, rfl, rfl, rfl, rfl, rfl, rfl, rfl, rfl, rfl, rfl, rfl, trivial⟩ (pf_cons (pf_cons (pf_cons pf_here))) (fun v _ h => by exact ⟨h.1, h.2.1, h.2.2.1, h.2.2.2.1, h.2.2.2.2.1, h.2.2.2.2.2.1, trivial⟩)
           ·
            replace hr10 := eq_of_beq hr10
            refine run_cond_t rfl (run_exit rfl (fin_next rfl (run_region (ops_val (yld_arith rfl rfl rfl (wrap64 (by omega) (by omega))) rfl ?_))))
            refine ops_val (yld_move rfl) rfl (ops_nil (fin_inv rfl ?_))
            exact ok_again ⟨m + 1, hlx4⟩ (by dsimp only; omega) ⟨rfl, rfl, rfl, rfl, rfl, rfl, rfl, rfl, rfl, rfl, rfl, rfl, rfl, rfl, rfl, rfl, rfl, trivial⟩ (pf_cons pf_here) (fun v _ h => by exact ⟨h.1, h.2.1, h.2.2.1, h.2.2.2.1, h.2.2.2.2.1, h.2.2.2.2.2.1, trivial⟩)
          ·
           replace hr9 := ne_of_bne hr9
           refine ops_no rfl rfl rfl rfl (ops_no rfl rfl rfl rfl (ops_no rfl rfl rfl rfl (ops_val (yld_pick_t rfl rfl) rfl ?_)))
           refine ops_nil (fin_next rfl (run_cond_t rfl (run_exit rfl (fin_next rfl (run_region (ops_val (yld_arith rfl rfl rfl (wrap64 (by omega) (by omega))) rfl ?_))))))
           refine ops_val (yld_move rfl) rfl (ops_nil (fin_inv rfl ?_))
           exact ok_again ⟨m + 1, hlx4⟩ (by dsimp only; omega) ⟨rfl, rfl, rfl, rfl, rfl, rfl, rfl, rfl, rfl, rfl, rfl, rfl, rfl, rfl, rfl, rfl, rfl, trivial⟩ (pf_cons pf_here) (fun v _ h => by exact ⟨h.1, h.2.1, h.2.2.1, h.2.2.2.1, h.2.2.2.2.1, h.2.2.2.2.2.1, trivial⟩)
        ·
         replace hr7 := of_decide_eq_true hr7
         have hlx3 : k < List.length (abvL (Cl.facts c1) x2) := by omega
         obtain ⟨x3, hx3⟩ : ∃ e0, (abvL (Cl.facts c1) x2)[k]? = some e0 := ⟨_, List.getElem?_eq_getElem hlx3⟩
         have hmx3 : x3 ∈ (abvL (Cl.facts c1) x2) := List.mem_of_getElem? hx3
         refine run_cond_t rfl (run_skip (fin_next rfl (run_seq (run_block (run_seq (run_region (ops_val (yld_indexR Tryz.runUnderlying25 Tryz.sizeOf9 rfl rfl (fun v _ h => row_adr (n := 1) strC_len (by decide) (by exact h.1) hx3) (by omega) (by first | omega | (simp; done))) rfl ?_)))))))
         refine ops_val (yld_loadR (ad := vad2) Tryz.isAgg9 rfl (fun v _ h => by exact h.1) (row_cells strC_len hx3 0 _ rfl)) rfl ?_
         refine ops_val (yld_assign rfl) rfl (ops_nil (fin_next rfl (run_seq (run_region (ops_val (yld_move rfl) rfl (ops_val (yld_move rfl) rfl (ops_callB (member_c (abvL (Cl.facts c1) x1) vad1 vcap1 x3 (by omega)) rfl pf_nil (fun v _ h => by exact ⟨h.2.1, trivial⟩) rfl fun r15 hr15 => ?_)))))))
         refine ops_val (yld_not rfl) rfl ?_
         refine ops_nil (fin_next rfl ?_)
         cases r15
         ·
          replace hr15 := dF hr15
          exact absurd (tr_trans hAl (hat ▸ hmx1) hmx2 hmx3) hr15
         ·
          replace hr15 := dT hr15
          refine run_cond_f rfl (run_skip (fin_next rfl (run_region (ops_val (yld_arith rfl rfl rfl (wrap64 (by omega) (by omega))) rfl ?_))))
          refine ops_val (yld_move rfl) rfl (ops_nil (fin_inv rfl ?_))
          exact ok_again ⟨k + 1, hlx3⟩ (by dsimp only; omega) ⟨rfl, rfl, rfl, rfl, rfl, rfl, rfl, rfl, rfl, rfl, rfl, rfl, rfl, rfl, trivial⟩ pf_here (fun v _ h => by exact ⟨h.1, h.2.1, h.2.2.1, h.2.2.2.1, h.2.2.2.2.1, h.2.2.2.2.2.1, trivial⟩)
  ·
   replace hr1 := ne_of_bne hr1
   refine run_cond_t rfl (run_seq (run_region (ops_val (yld_assign rfl) rfl (ops_nil (fin_next rfl (run_ret ?_))))))
   exact ret1 Tryz.results12 () rfl pf_nil (fun _ _ _ => trivial)
end Go.Proofs.YtpdbbglpbngeiaaGreatDoor
