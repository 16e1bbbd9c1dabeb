/-
  Part of the proof of the law SaturateOrder over this seat: the small logic, the data, the contracts of functions (no condition).
-/
import Derived.Test.YtpdbbglpbngeiaaGreatDoorQSaturateOrder7
import Derived.Test.YtpdbbglpbngeiaaGreatDoorQSaturateOrder2
import Derived.Test.YtpdbbglpbngeiaaGreatDoorQSaturateOrder1
set_option linter.unusedVariables false
set_option linter.unusedSimpArgs false
set_option linter.unusedSectionVars false
namespace Go.Proofs.YtpdbbglpbngeiaaGreatDoor
open Go Go.Sx Go.Proofs
set_option linter.unusedVariables false
attribute [local irreducible] Code.wp wpList wpAnyH
open Go.Vs
theorem factOk_form {A : List Str} {f : Fc} (h : factOk A f = true) : f.form := by
  unfold factOk at h
  simp only [Bool.and_eq_true, decide_eq_true_eq] at h
  obtain ⟨_, h⟩ := h
  split at h
  · simp only [Bool.and_eq_true, decide_eq_true_eq, isSubB] at h
    exact .inl ⟨_, _, h.2⟩
  · split at h
    · simp only [Bool.and_eq_true, decide_eq_true_eq] at h
      exact .inr (.inl ⟨_, _, _, h.2.2, h.2.1⟩)
    · split at h
      · simp only [Bool.and_eq_true, decide_eq_true_eq] at h
        exact .inr (.inr ⟨_, _, _, _, h.2.1, h.1, h.2.2.1, h.2.2.2.1, h.2.2.2.2⟩)
      · simp at h
theorem checkC_ok {at' : List Str} {fs : List Fc} (h : checkC at' fs = 0) : ChkC at' fs ∧ fs.length ≤ 65536 := by
  unfold checkC at h
  split at h
  · rename_i h1
    split at h
    · simp at h
    · exact ⟨chk_iff.1 h1, by omega⟩
  · simp at h
/-- what Next answers -/
def NextR (p : List Pc) (at' : List Str) (fs l : List Fc) (e : Int) : Prop :=
  if checkP p ≠ 0 then l = [] ∧ e = checkP p
  else if checkC at' fs ≠ 0 then l = [] ∧ e = checkC at' fs
  else e = 0 ∧ Srt l ∧ ∀ y, y ∈ l ↔ One' p (atS p) (· ∈ fs) y ∧ y ∉ fs
theorem nextR_p {p : List Pc} {at' : List Str} {fs : List Fc} (h : checkP p ≠ 0) : NextR p at' fs [] (checkP p) := by unfold NextR; rw [if_pos h]; exact ⟨rfl, rfl⟩
theorem nextR_c {p : List Pc} {at' : List Str} {fs : List Fc} (h : checkP p = 0) (h2 : checkC at' fs ≠ 0) : NextR p at' fs [] (checkC at' fs) := by unfold NextR; rw [if_neg (by simp [h]), if_pos h2]; exact ⟨rfl, rfl⟩
theorem nextR_ok {p : List Pc} {at' : List Str} {fs q fm : List Fc} {k : Nat} (h : checkP p = 0) (h2 : checkC at' fs = 0) (hI : InvN (uniq [] p) (atS p) fs k (q, fm)) (hk : fs.length ≤ k) (hk2 : k ≤ fs.length) (hn : q.Nodup) : NextR p at' fs (srtF q) 0 := by
  unfold NextR; rw [if_neg (by simp [h]), if_neg (by simp [h2])]
  obtain rfl : k = fs.length := by omega
  refine ⟨rfl, srtF_srt hn, fun y => ?_⟩
  rw [srtF_mem, invN_done hI, uniq_one]
theorem nextN_len {p : List Pc} {fs q : List Fc} {A : List Str} (hF : ∀ y ∈ fs, y.form) (hp : p.length ≤ 100) (hA : A.length ≤ 1000) (hl : fs.length ≤ 65536) (hn : q.Nodup) (hq : ∀ y ∈ q, One' p A (· ∈ fs) y) : q.length ≤ 1000000000000 := by
  have h1 := nodup_le hn (m := firstL p A ++ fs.flatMap (fun f => stepS p fs f)) fun y hy => (next_ref hF y).2 (hq y hy)
  have h2 : (fs.flatMap (fun f => stepS p fs f)).length ≤ fs.length * 14000000 := fm_le fs fun x _ => stepS_len hp hl
  have h3 : (firstL p A).length ≤ A.length * 102 := fm_le A fun x _ => by
    simp only [List.length_cons, List.length_map]
    have := List.length_filter_le (fun x : Pc => decide (x.kind = 7)) p
    omega
  rw [List.length_append] at h1
  omega
theorem ix_start (fs : List Fc) : Ix.nil.of (fun y => y ∈ List.take 0 fs) (fun _ => True) := by
  have e : (fun y => y ∈ fs.take 0) = (fun _ => False) := funext fun y => by simp
  rw [e]; exact Ix.of_nil _
theorem ix_next {x : Ix} {fs : List Fc} {i : Nat} {f : Fc} (h : x.of (fun y => y ∈ List.take i fs) (fun _ => True)) (hf : fs[i]? = some f) : (x.add (decide (f ∈ List.take (i + 1) fs)) f).of (fun y => y ∈ List.take (i + 1) fs) (fun _ => True) := by
  have hm : f ∈ List.take (i + 1) fs := by rw [List.take_add_one, hf]; simp
  have := Ix.of_add h f (b := decide (f ∈ List.take (i + 1) fs)) (by simp [hm])
  have e : (fun y => y ∈ List.take (i + 1) fs) = (fun y => y ∈ List.take i fs ∨ y = f) := funext fun y => by rw [List.take_add_one, hf]; simp
  rw [e]; exact this
theorem pf_sixT {F Ha Hu Ho Hi Hr Hm : Hp} {a b c : Nat × Obj} : ((Ha ++ (Hu ++ (Ho ++ (Hi ++ (Hr ++ (Hm ++ [a, b, c])))))) ++ F).Perm (Ha ++ (Hu ++ (Ho ++ (Hi ++ (Hr ++ (Hm ++ (a :: b :: c :: F))))))) := by simp [List.append_assoc]
set_option maxHeartbeats 4000000 in
theorem next_c (p : List Pc) (pad : Option Addr) (pcap : Nat) (c : Cl) (hsm : ∀ x ∈ p, x.sm) (hp : p.length ≤ 100) (hca : c.atoms.length ≤ 1000000000000) (hcf : c.facts.length ≤ 1000000000000) : Tri Tryz.prog 22 #[.slice pad (List.length p) pcap, Cl.val c] [] [rowF pad (List.flatMap Pc.cells p), tabN, rowF (Cl.aad c) (List.flatMap strC (Cl.atoms c)), rowF (Cl.fad c) (List.flatMap Fc.cells (Cl.facts c))] (fun y : {y : Option Addr × Nat × List Fc × Int // (y.2.2.1.length ≤ y.2.1 ∧ y.2.1 ≤ maxLen ∧ (y.1 = none → y.2.1 = 0)) ∧ NextR p c.atoms c.facts y.2.2.1 y.2.2.2} => .tuple #[.slice y.1.1 y.1.2.2.1.length y.1.2.1, .int .i64 y.1.2.2.2]) (fun _ => []) (fun y => [rowF y.1.1 (y.1.2.2.1.flatMap Fc.cells)]) := by
 refine tri_of_body Tryz.func22 rfl rfl Tryz.ntmps22 rfl fun v0 => ?_
 refine run_seq (run_region (ops_box rfl rfl fun b1 => ?_))
 refine ops_val (yld_assign rfl) rfl (ops_val (yld_assign rfl) rfl (ops_nil (fin_next rfl (run_seq (run_seq (run_region (ops_val (yld_move rfl) rfl ?_)))))))
 refine ops_call (check_c p pad pcap (by omega) hsm) rfl pf_nil (fun v _ h => by exact ⟨h.1, h.2.1, trivial⟩) rfl fun _ => ?_
 refine ops_val (yld_assign rfl) rfl (ops_nil (fin_next rfl (run_seq (run_region (ops_val (yld_move rfl) rfl (ops_valB (yld_neq rfl rfl) rfl fun r1 hr1 => ?_))))))
 refine ops_nil (fin_next rfl ?_)
 cases r1
 ·
  replace hr1 := eq_of_bne hr1
  have hchk := hr1
  refine run_cond_f rfl (run_skip (fin_next rfl (run_seq (run_seq (run_region (ops_val (yld_loadS 0 Tryz.isAgg28 Tryz.sizeOf28 rfl rfl rfl) rfl ?_))))))
  refine ops_call (chk_c c hca hcf) rfl pf_nil (fun v _ h => by exact ⟨h.2.2.1, h.2.2.2.1, trivial⟩) rfl fun _ => ?_
  refine ops_val (yld_assign rfl) rfl (ops_nil (fin_next rfl (run_seq (run_region (ops_val (yld_move rfl) rfl (ops_valB (yld_neq rfl rfl) rfl fun r2 hr2 => ?_))))))
  refine ops_nil (fin_next rfl ?_)
  cases r2
  ·
   replace hr2 := eq_of_bne hr2
   have hchc := hr2
   refine run_cond_f rfl (run_skip (fin_next rfl (run_seq ?_)))
   have hvk := uniq_vok (check_vok hchk)
   obtain ⟨hcc, hfl⟩ := checkC_ok hchc
   have hform : ∀ y ∈ (Cl.facts c), y.form := fun y hy => factOk_form (hcc.ok y hy)
   have hnd : ((Cl.facts c)).Nodup := hcc.sf.nodup
   have hpl : ∀ k, (lat (pmOf (uniq [] p)) k).length ≤ 1000000000 := fun k => by have h1 := lat_len (pmOf (uniq [] p)) k; have h2 := pmOf_len (uniq [] p); have h3 := uniq_len p []; simp only [List.length_nil] at h3; omega
   refine run_region (ops_val (yld_move rfl) rfl (ops_call (newEngine_c p pad pcap (by omega)) rfl pf_nil (fun v _ h => by exact ⟨h.1, trivial⟩) rfl fun ⟨⟨g, pb, kb, ab, ub, ob, ib, rb, sb, fb, lv, hm0, hl0⟩, hy⟩ => ?_))
   dsimp only
   dsimp only [NewE.own, NewE.ok] at hy ⊢
   obtain ⟨hym, hyl⟩ := hy
   simp only [List.cons_append, List.append_assoc]
   refine ok_giveRowN hyl (pf_cons (pf_cons (pf_cons (pf_cons (pf_cons (pf_cons (pf_cons (pf_cons (pf_cons (pf_app pf_hereO)))))))))) fun lad lcap hlad hclad hmlad hzlad => ?_
   subst hlad
   refine ops_alloc Tryz.zeroValue85 rfl fun b2 => ?_
   refine ok_perm (pf_fB pf_here (pf_fB pf_here (pf_fB pf_here (pf_fB pf_here (pf_fB pf_here (pf_fB pf_here (pf_fB pf_here (pf_fB pf_here (pf_fB pf_here (pf_fB pf_here (pf_f1 pf_last))))))))))) ?_
   refine ops_store 0 Tryz.sizeOf85 rfl rfl rfl rfl rfl rfl ?_
   refine ops_nil (fin_next rfl (run_seq (run_region (ops_mkmap rfl fun nb => ?_))))
   refine ops_alloc Tryz.zeroValue88 rfl fun b3 => ?_
   refine ops_store 0 Tryz.sizeOf88 rfl rfl rfl rfl rfl rfl ?_
   refine ops_nil (fin_next rfl (run_seq (run_region (ops_val (yld_load 2 Tryz.isAgg85 rfl rfl rfl) rfl ?_))))
   refine ops_val (yld_func rfl rfl) rfl ?_
   refine ops_val (yld_nilck rfl) rfl ?_
   refine ops_val (yld_field Tryz.runUnderlying94 rfl rfl rfl Tryz.sizeOf89) rfl ?_
   refine ops_store 3 Tryz.sizeOf89 rfl rfl rfl rfl rfl rfl ?_
   refine ops_nil (fin_next rfl (run_seq (run_seq (ok_give (objF b2 (.cells #[.pointer (some ⟨g, 0, none⟩)] 85 (0, 0))) (pf_f1 (pf_cons (pf_cons pf_here))) (fun _ h1 h2 _ => ⟨h1, h2⟩) ?_))))
   refine ok_give (objF b3 (.cells #[.map (some nb)] 88 (0, 0))) (pf_f1 pf_here) (fun _ h1 h2 _ => ⟨h1, h2⟩) ?_
   refine ok_give (objF g (.cells #[.map (some pb), .slice lad (List.length (loopsOf (uniq [] p))) lcap, .map (some kb), .func (.func 67) #[] #[.pointer (some ⟨b2, 0, none⟩), .pointer (some ⟨b3, 0, none⟩)], .map (some ab), .map (some ub), .map (some ob), .map (some ib), .map (some rb), .map (some sb), .map (some fb)] 94 (0, 0))) (pf_f1 (pf_cons pf_here)) (fun _ h1 h2 _ => ⟨h1, h2⟩) ?_
   refine ok_giveM keyKy hym (pf_cons (pf_cons (pf_cons (pf_cons (pf_cons (pf_cons (pf_cons (pf_cons (pf_cons pf_lastB))))))))) fun adr => ?_
   refine run_region (ops_val (yld_field Tryz.runUnderlying28 rfl rfl rfl Tryz.sizeOf26) rfl ?_)
   refine ops_val (yld_load 9 Tryz.isAgg26 rfl rfl rfl) rfl ?_
   refine ops_val (yld_lenS Tryz.runUnderlying26 rfl) rfl ?_
   refine ops_val (yld_move rfl) rfl (ops_nil (fin_next rfl (run_block (ok_fr [(0, .slice pad (List.length p) pcap), (3, .pointer (some ⟨b1, 0, none⟩)), (8, .pointer (some ⟨b2, 0, none⟩)), (9, .pointer (some ⟨b3, 0, none⟩)), (35, .slice (Cl.fad c) (List.length (Cl.facts c)) (Cl.fcap c)), (36, .int .i64 (List.length (Cl.facts c) : Int)), (37, .int .i64 ((0 : Nat) : Int))] ⟨rfl, rfl, rfl, rfl, rfl, rfl, rfl, trivial⟩ ?_))))
   refine ok_weak (H' := ((b1, .cells #[.slice (Cl.aad c) (List.length (Cl.atoms c)) (Cl.acap c), .slice (Cl.fad c) (List.length (Cl.facts c)) (Cl.fcap c)] 28 (0, 0)) :: ((nb, .map #[] 0) :: ((kb, .map #[] 0) :: ((fb, .map #[] 0) :: ([(ab, .map #[] 0)] ++ ([(ub, .map #[] 0)] ++ ([(ob, .map #[] 0)] ++ ([(ib, .map #[] 0)] ++ ([(rb, .map #[] 0)] ++ [(sb, .map #[] 0)])))))))))) (Γ' := [mlF Tryz.prog 171 Ky.val Pc.cells pb (pmOf (uniq [] p)) adr, objF g (.cells #[.map (some pb), .slice lad (List.length (loopsOf (uniq [] p))) lcap, .map (some kb), .func (.func 67) #[] #[.pointer (some ⟨b2, 0, none⟩), .pointer (some ⟨b3, 0, none⟩)], .map (some ab), .map (some ub), .map (some ob), .map (some ib), .map (some rb), .map (some sb), .map (some fb)] 94 (0, 0)), objF b3 (.cells #[.map (some nb)] 88 (0, 0)), objF b2 (.cells #[.pointer (some ⟨g, 0, none⟩)] 85 (0, 0)), rowF lad (List.flatMap strC (loopsOf (uniq [] p))), rowF pad (List.flatMap Pc.cells p), tabN, rowF (Cl.aad c) (List.flatMap strC (Cl.atoms c)), rowF (Cl.fad c) (List.flatMap Fc.cells (Cl.facts c))]) (pf_takeB (pf_cons (pf_cons (pf_cons (pf_cons (pf_cons (pf_cons (pf_cons (pf_cons (pf_cons pf_here))))))))) (pf_takeB pf_here (pf_takeB pf_here (pf_takeB (pf_cons (pf_cons (pf_cons (pf_cons (pf_cons (pf_cons pf_here)))))) (pf_takeB pf_here (pf_takeB pf_here (pf_takeB pf_here (pf_takeB pf_here (pf_takeB pf_here pf_here))))))))) (fun v _ h => by exact ⟨h.1, h.2.1, h.2.2.1, h.2.2.2.1, h.2.2.2.2.1, h.2.2.2.2.2.1, h.2.2.2.2.2.2.1, h.2.2.2.2.2.2.2.1, h.2.2.2.2.2.2.2.2.1, trivial⟩) ?_
   refine run_loop (ι := {y : Nat × Ix × Array MapEntry × Nat × Array MapEntry × Nat × Hp × Hp × Hp × Hp × Hp × Hp // y.1 ≤ List.length (Cl.facts c) ∧ SetE Fc.val y.2.2.1 (List.take y.1 (Cl.facts c)) ∧ SetE Fc.val y.2.2.2.2.1 (List.take y.1 (Cl.facts c)) ∧ IxO 9 41 (EngB.mk g pb ab ub ob ib rb sb lad lcap (loopsOf (uniq [] p))) y.2.1 ⟨y.2.2.2.2.2.2.1, y.2.2.2.2.2.2.2.1, y.2.2.2.2.2.2.2.2.1, y.2.2.2.2.2.2.2.2.2.1, y.2.2.2.2.2.2.2.2.2.2.1, y.2.2.2.2.2.2.2.2.2.2.2⟩ ∧ ixSz y.2.1 y.1 ∧ y.2.1.of (fun z => z ∈ (List.take y.1 (Cl.facts c))) (fun _ => True)}) (fun y => [(0, .slice pad (List.length p) pcap), (3, .pointer (some ⟨b1, 0, none⟩)), (8, .pointer (some ⟨b2, 0, none⟩)), (9, .pointer (some ⟨b3, 0, none⟩)), (35, .slice (Cl.fad c) (List.length (Cl.facts c)) (Cl.fcap c)), (36, .int .i64 (List.length (Cl.facts c) : Int)), (37, .int .i64 (y.1.1 : Int))]) (fun y => ((b1, .cells #[.slice (Cl.aad c) (List.length (Cl.atoms c)) (Cl.acap c), .slice (Cl.fad c) (List.length (Cl.facts c)) (Cl.fcap c)] 28 (0, 0)) :: ((nb, .map #[] 0) :: ((kb, .map y.1.2.2.1 y.1.2.2.2.1) :: ((fb, .map y.1.2.2.2.2.1 y.1.2.2.2.2.2.1) :: (y.1.2.2.2.2.2.2.1 ++ (y.1.2.2.2.2.2.2.2.1 ++ (y.1.2.2.2.2.2.2.2.2.1 ++ (y.1.2.2.2.2.2.2.2.2.2.1 ++ (y.1.2.2.2.2.2.2.2.2.2.2.1 ++ y.1.2.2.2.2.2.2.2.2.2.2.2)))))))))) (fun y => [mlF Tryz.prog 171 Ky.val Pc.cells pb (pmOf (uniq [] p)) adr, objF g (.cells #[.map (some pb), .slice lad (List.length (loopsOf (uniq [] p))) lcap, .map (some kb), .func (.func 67) #[] #[.pointer (some ⟨b2, 0, none⟩), .pointer (some ⟨b3, 0, none⟩)], .map (some ab), .map (some ub), .map (some ob), .map (some ib), .map (some rb), .map (some sb), .map (some fb)] 94 (0, 0)), objF b3 (.cells #[.map (some nb)] 88 (0, 0)), objF b2 (.cells #[.pointer (some ⟨g, 0, none⟩)] 85 (0, 0)), rowF lad (List.flatMap strC (loopsOf (uniq [] p))), rowF pad (List.flatMap Pc.cells p), tabN, rowF (Cl.aad c) (List.flatMap strC (Cl.atoms c)), rowF (Cl.fad c) (List.flatMap Fc.cells (Cl.facts c))]) (fun y => List.length (Cl.facts c) - y.1.1) ⟨((0 : Nat), Ix.nil, #[], 0, #[], 0, [(ab, .map #[] 0)], [(ub, .map #[] 0)], [(ob, .map #[] 0)], [(ib, .map #[] 0)], [(rb, .map #[] 0)], [(sb, .map #[] 0)]), by simp, by exact SetE.nil, by exact SetE.nil, ⟨MLog.nil _ _, MLog.nil _ _, MLog.nil _ _, MLog.nil _ _, MLog.nil _ _, MLog.nil _ _⟩, ixSz_nil, ix_start _⟩ ?_
   rintro ⟨⟨i, x, es, c1, es2, c2, Ha, Hu, Ho, Hi, Hr, Hm⟩, hi, hK, hF, hI, hz, hxo⟩
   dsimp only at hi hK hF hI hz hxo ⊢
   refine ok_fr [(0, .slice pad (List.length p) pcap), (3, .pointer (some ⟨b1, 0, none⟩)), (8, .pointer (some ⟨b2, 0, none⟩)), (9, .pointer (some ⟨b3, 0, none⟩)), (35, .slice (Cl.fad c) (List.length (Cl.facts c)) (Cl.fcap c)), (36, .int .i64 (List.length (Cl.facts c) : Int)), (37, .int .i64 (i : Int))] ⟨rfl, rfl, rfl, rfl, rfl, rfl, rfl, trivial⟩ ?_
   obtain ⟨hxl, hyl⟩ := ixSz_lat hz (by omega)
   refine run_seq (run_region (ops_valB (yld_lss rfl rfl) rfl fun r3 hr3 => ?_))
   refine ops_nil (fin_next rfl (run_seq ?_))
   cases r3
   ·
    replace hr3 := of_decide_eq_false hr3
    have e9 : (List.take i (Cl.facts c)) = (Cl.facts c) := List.take_of_length_le (by omega)
    rw [e9] at hK hF hxo
    refine run_cond_f rfl (run_exit rfl (fin_next rfl (run_seq ?_)))
    refine run_drawH ((b1, .cells #[.slice (Cl.aad c) (List.length (Cl.atoms c)) (Cl.acap c), .slice (Cl.fad c) (List.length (Cl.facts c)) (Cl.fcap c)] 28 (0, 0)) :: (Ha ++ (Hu ++ (Ho ++ (Hi ++ (Hr ++ Hm)))))) (by kernel_rfl) ?_
    refine any_sq 2 [0, 1] (by kernel_rfl) (fun _ a b => ⟨Vw.sat.sub (a.perm (pf_takeB pf_here (pf_takeO (pf_cons (pf_cons (pf_cons pf_hereO))) (pf_takeO (pf_cons (pf_cons (pf_cons pf_hereO))) (pf_takeO (pf_cons (pf_cons (pf_cons pf_hereO))) (pf_takeO (pf_cons (pf_cons (pf_cons pf_hereO))) (pf_takeO (pf_cons (pf_cons (pf_cons pf_hereO))) (pf_cons (pf_cons pf_lastB))))))))), b⟩) ?_
    refine sq_val rfl (yld_loadO Tryz.isAgg85 rfl (fun v _ h => by exact h.2.2.2.1) rfl) rfl ?_
    refine sq_val rfl (yld_move rfl) rfl ?_
    refine sq_nil ?_
    refine any_one 2 rfl (by kernel_rfl) ?_
    refine ops_call (atS_c p pad pcap (by omega)) rfl pf_nil (fun v _ h => by exact ⟨h.2.2.2.2.2.1, trivial⟩) rfl fun ⟨⟨aad, acap⟩, hac, ham, haz⟩ => ?_
    dsimp only
    refine ops_nil (fin_inv rfl (any_next (fun _ a b => ⟨Vw.sat.sub (a.perm (pf_takeB pf_here (pf_takeO (pf_cons (pf_cons (pf_cons pf_hereO))) (pf_takeO (pf_cons (pf_cons (pf_cons pf_hereO))) (pf_takeO (pf_cons (pf_cons (pf_cons pf_hereO))) (pf_takeO (pf_cons (pf_cons (pf_cons pf_hereO))) (pf_takeO (pf_cons (pf_cons (pf_cons pf_hereO))) (pf_cons (pf_cons pf_lastB))))))))), b.2⟩) ?_))
    refine any_one 3 rfl (by kernel_rfl) ?_
    refine ops_call (begin_c (EngB.mk g pb ab ub ob ib rb sb lad lcap (loopsOf (uniq [] p))) (EN (Cl.facts c) (EngB.mk g pb ab ub ob ib rb sb lad lcap (loopsOf (uniq [] p))) b2 b3 kb fb nb) [] (Cl.facts c) [(nb, .map #[] 0), (kb, .map es c1), (fb, .map es2 c2)] ⟨es, c1, es2, c2, (Cl.facts c), #[], 0, rfl, SetE.nil, hK, hF, fun _ => Iff.rfl, Born.nil 0⟩ (atS p) aad acap (by have := atS_len p; omega) (by have := loopsOf_len (uniq [] p); have h3 := uniq_len p []; simp only [List.length_nil] at h3; show (loopsOf (uniq [] p)).length ≤ _; omega)) rfl (pf_takeB (pf_cons pf_here) (pf_takeB (pf_cons pf_here) (pf_cons pf_here))) (fun v _ h => by exact ⟨h.2.2.1, h.2.2.2.2.2.1, h.1, ⟨h.2.2.2.2.1, h.2.2.2.1, h.2.2.1⟩, trivial⟩) rfl fun ⟨Hs1, hS1⟩ => ?_
    dsimp only
    refine ops_nil (fin_inv rfl (any_next (fun _ a b => ⟨Vw.sat.sub (a.perm (pf_takeB (pf_app pf_here) (pf_takeO (pf_app pf_hereO) (pf_takeO (pf_app pf_hereO) (pf_takeO (pf_app pf_hereO) (pf_takeO (pf_app pf_hereO) (pf_takeO (pf_app pf_hereO) pf_last))))))), b.2⟩) ?_))
    refine any_done (by kernel_rfl) ?_
    refine fin_next rfl (ok_perm (pf_f1 (pf_app pf_here)) ?_)
    refine run_seq (run_region (ops_val (yld_loadO Tryz.isAgg85 rfl (fun v _ h => by exact h.2.2.2.2.1) rfl) rfl ?_))
    refine ops_call (rules_c g) rfl pf_nil (fun _ _ _ => by exact trivial) rfl fun ⟨r1, r2, r3⟩ => ?_
    dsimp only
    refine ops_alloc Tryz.zeroValue98 rfl fun b4 => ?_
    refine ops_store 0 Tryz.sizeOf98 rfl rfl rfl rfl rfl rfl ?_
    refine ops_nil (fin_next rfl (run_seq (run_seq (run_region (ops_val (yld_field Tryz.runUnderlying28 rfl rfl rfl Tryz.sizeOf26) rfl ?_)))))
    refine ops_val (yld_load 1 Tryz.isAgg26 rfl rfl rfl) rfl ?_
    refine ops_val (yld_lenS Tryz.runUnderlying26 rfl) rfl ?_
    refine ops_val (yld_move rfl) rfl (ops_nil (fin_next rfl (run_block (ok_fr [(0, .slice pad (List.length p) pcap), (3, .pointer (some ⟨b1, 0, none⟩)), (8, .pointer (some ⟨b2, 0, none⟩)), (9, .pointer (some ⟨b3, 0, none⟩)), (12, .pointer (some ⟨b4, 0, none⟩)), (62, .slice (Cl.fad c) (List.length (Cl.facts c)) (Cl.fcap c)), (63, .int .i64 (List.length (Cl.facts c) : Int)), (64, .int .i64 ((0 : Nat) : Int))] ⟨rfl, rfl, rfl, rfl, rfl, rfl, rfl, rfl, trivial⟩ ?_))))
    refine ok_weak (H' := ((b1, .cells #[.slice (Cl.aad c) (List.length (Cl.atoms c)) (Cl.acap c), .slice (Cl.fad c) (List.length (Cl.facts c)) (Cl.fcap c)] 28 (0, 0)) :: ((b4, .cells #[.slice none 0 0, .slice (some ⟨r1, 0, none⟩) 6 6, .slice (some ⟨r2, 0, none⟩) 4 4, .slice (some ⟨r3, 0, none⟩) 2 2] 98 (0, 0)) :: (Ha ++ (Hu ++ (Ho ++ (Hi ++ (Hr ++ (Hm ++ Hs1))))))))) (Γ' := [rowF (some ⟨r1, 0, none⟩) (List.flatMap fvC (rlV g 1)), rowF (some ⟨r2, 0, none⟩) (List.flatMap fvC (rlV g 2)), rowF (some ⟨r3, 0, none⟩) (List.flatMap fvC (rlV g 3)), rowF aad (List.flatMap strC (atS p)), mlF Tryz.prog 171 Ky.val Pc.cells pb (pmOf (uniq [] p)) adr, objF g (.cells #[.map (some pb), .slice lad (List.length (loopsOf (uniq [] p))) lcap, .map (some kb), .func (.func 67) #[] #[.pointer (some ⟨b2, 0, none⟩), .pointer (some ⟨b3, 0, none⟩)], .map (some ab), .map (some ub), .map (some ob), .map (some ib), .map (some rb), .map (some sb), .map (some fb)] 94 (0, 0)), objF b3 (.cells #[.map (some nb)] 88 (0, 0)), objF b2 (.cells #[.pointer (some ⟨g, 0, none⟩)] 85 (0, 0)), rowF lad (List.flatMap strC (loopsOf (uniq [] p))), rowF pad (List.flatMap Pc.cells p), tabN, rowF (Cl.aad c) (List.flatMap strC (Cl.atoms c)), rowF (Cl.fad c) (List.flatMap Fc.cells (Cl.facts c))]) (pf_takeB (pf_cons pf_here) (pf_takeB pf_here (pf_takeO (pf_app pf_hereO) (pf_takeO (pf_app pf_hereO) (pf_takeO (pf_app pf_hereO) (pf_takeO (pf_app pf_hereO) (pf_takeO (pf_app pf_hereO) (pf_takeO pf_last pf_end)))))))) (fun v _ h => by exact ⟨h.1, h.2.1, h.2.2.1, h.2.2.2.1, h.2.2.2.2.1, h.2.2.2.2.2.1, h.2.2.2.2.2.2.1, h.2.2.2.2.2.2.2.1, h.2.2.2.2.2.2.2.2.1, h.2.2.2.2.2.2.2.2.2.1, h.2.2.2.2.2.2.2.2.2.2.1, h.2.2.2.2.2.2.2.2.2.2.2.1, h.2.2.2.2.2.2.2.2.2.2.2.2.1, trivial⟩) ?_
    refine run_loop (ι := {y : Nat × List Fc × List Fc × Hp // y.1 ≤ List.length (Cl.facts c) ∧ InvN (uniq [] p) (atS p) (Cl.facts c) y.1 (y.2.1, y.2.2.1) ∧ ((EN (Cl.facts c) (EngB.mk g pb ab ub ob ib rb sb lad lcap (loopsOf (uniq [] p))) b2 b3 kb fb nb)).St y.2.1 y.2.2.1 y.2.2.2}) (fun y => [(0, .slice pad (List.length p) pcap), (3, .pointer (some ⟨b1, 0, none⟩)), (8, .pointer (some ⟨b2, 0, none⟩)), (9, .pointer (some ⟨b3, 0, none⟩)), (12, .pointer (some ⟨b4, 0, none⟩)), (62, .slice (Cl.fad c) (List.length (Cl.facts c)) (Cl.fcap c)), (63, .int .i64 (List.length (Cl.facts c) : Int)), (64, .int .i64 (y.1.1 : Int))]) (fun y => ((b1, .cells #[.slice (Cl.aad c) (List.length (Cl.atoms c)) (Cl.acap c), .slice (Cl.fad c) (List.length (Cl.facts c)) (Cl.fcap c)] 28 (0, 0)) :: ((b4, .cells #[.slice none 0 0, .slice (some ⟨r1, 0, none⟩) 6 6, .slice (some ⟨r2, 0, none⟩) 4 4, .slice (some ⟨r3, 0, none⟩) 2 2] 98 (0, 0)) :: (Ha ++ (Hu ++ (Ho ++ (Hi ++ (Hr ++ (Hm ++ y.1.2.2.2))))))))) (fun y => [rowF (some ⟨r1, 0, none⟩) (List.flatMap fvC (rlV g 1)), rowF (some ⟨r2, 0, none⟩) (List.flatMap fvC (rlV g 2)), rowF (some ⟨r3, 0, none⟩) (List.flatMap fvC (rlV g 3)), rowF aad (List.flatMap strC (atS p)), mlF Tryz.prog 171 Ky.val Pc.cells pb (pmOf (uniq [] p)) adr, objF g (.cells #[.map (some pb), .slice lad (List.length (loopsOf (uniq [] p))) lcap, .map (some kb), .func (.func 67) #[] #[.pointer (some ⟨b2, 0, none⟩), .pointer (some ⟨b3, 0, none⟩)], .map (some ab), .map (some ub), .map (some ob), .map (some ib), .map (some rb), .map (some sb), .map (some fb)] 94 (0, 0)), objF b3 (.cells #[.map (some nb)] 88 (0, 0)), objF b2 (.cells #[.pointer (some ⟨g, 0, none⟩)] 85 (0, 0)), rowF lad (List.flatMap strC (loopsOf (uniq [] p))), rowF pad (List.flatMap Pc.cells p), tabN, rowF (Cl.aad c) (List.flatMap strC (Cl.atoms c)), rowF (Cl.fad c) (List.flatMap Fc.cells (Cl.facts c))]) (fun y => List.length (Cl.facts c) - y.1.1) ⟨((0 : Nat), (emits (stpN (Cl.facts c)) (beginL (loopsOf (uniq [] p)) (atS p)) []), (Cl.facts c), Hs1), by simp, invN_start (fun _ h => h), by exact hS1⟩ ?_
    rintro ⟨⟨k, q, fm, Hs⟩, hkl, hN, hS⟩
    dsimp only at hkl hN hS ⊢
    refine ok_fr [(0, .slice pad (List.length p) pcap), (3, .pointer (some ⟨b1, 0, none⟩)), (8, .pointer (some ⟨b2, 0, none⟩)), (9, .pointer (some ⟨b3, 0, none⟩)), (12, .pointer (some ⟨b4, 0, none⟩)), (62, .slice (Cl.fad c) (List.length (Cl.facts c)) (Cl.fcap c)), (63, .int .i64 (List.length (Cl.facts c) : Int)), (64, .int .i64 (k : Int))] ⟨rfl, rfl, rfl, rfl, rfl, rfl, rfl, rfl, trivial⟩ ?_
    refine run_seq (run_region (ops_valB (yld_lss rfl rfl) rfl fun r4 hr4 => ?_))
    refine ops_nil (fin_next rfl (run_seq ?_))
    cases r4
    ·
     replace hr4 := of_decide_eq_false hr4
     refine run_cond_f rfl (run_exit rfl (fin_next rfl (run_seq ?_)))
     obtain ⟨es5, c5, es6, c6, q6, es7, c7, hHs, hE7, hE5, hE6, hq6, hB7⟩ := hS
     subst hHs
     have hone : ∀ y ∈ q, One' p (atS p) (· ∈ (Cl.facts c)) y := fun y hy => by have e : k = ((Cl.facts c)).length := (by omega); subst e; exact uniq_one.1 ((invN_done hN y).1 hy).1
     have hql := nextN_len hform hp (by have := atS_len p; omega) hfl hE7.nd hone
     refine run_region (ops_val (yld_loadO Tryz.isAgg88 rfl (fun v _ h => by exact h.2.2.2.2.2.2.1) rfl) rfl ?_)
     refine ops_call (keysF_c nb) rfl pf_nil (fun _ _ _ => by exact trivial) rfl fun bx => ?_
     refine ops_call (sortedF_c nb bx c7 es7 q hE7 hB7 hql) rfl (pf_takeB pf_here (pf_cons (pf_cons (pf_app (pf_app (pf_app (pf_app (pf_app (pf_app pf_here))))))))) (fun _ _ _ => by exact trivial) rfl fun ⟨⟨oad, ocap⟩, hoc, hom, hoz⟩ => ?_
     dsimp only
     refine ops_val (yld_assign rfl) rfl (ops_val (yld_assign rfl) rfl (ops_nil (fin_next rfl (run_ret ?_))))
     exact ret2 Tryz.results22 ⟨(oad, ocap, srtF q, 0), ⟨hoc, hom, hoz⟩, nextR_ok hchk hchc hN (by omega) (by omega) hE7.nd⟩ rfl rfl rfl pf_nil (fun v _ h => by exact ⟨h.1, trivial⟩)
    ·
     replace hr4 := of_decide_eq_true hr4
     have hlf2 : k < List.length (Cl.facts c) := by omega
     obtain ⟨f2, hf2⟩ : ∃ e0, (Cl.facts c)[k]? = some e0 := ⟨_, List.getElem?_eq_getElem hlf2⟩
     have hmf2 : f2 ∈ (Cl.facts c) := List.mem_of_getElem? hf2
     have hform2 := hform f2 hmf2
     obtain ⟨hxl, hyl⟩ := ixSz_lat hz (by omega)
     refine run_cond_t rfl (run_skip (fin_next rfl (run_seq (run_block (run_seq (run_region (ops_val (yld_indexR Tryz.runUnderlying26 Tryz.sizeOf41 rfl rfl (fun v _ h => row_adr (n := 6) Fc.cells_len (by decide) (by exact h.2.2.2.2.2.2.2.2.2.2.2.2.1) hf2) (by omega) (by first | omega | (simp; done))) rfl ?_)))))))
     refine ops_val (yld_loadRS (ad := (Cl.fad c)) (us := Fc.cells f2) Tryz.isAgg41 Tryz.sizeOf41 rfl (fun v _ h => by exact h.2.2.2.2.2.2.2.2.2.2.2.2.1) (Fc.cells_len _) (row_cells Fc.cells_len hf2)) rfl ?_
     refine ops_alloc Tryz.zeroValue41 rfl fun b5 => ?_
     refine ops_store 0 Tryz.sizeOf41 rfl rfl rfl rfl rfl rfl ?_
     refine ops_nil (fin_next rfl (run_seq (run_region (ops_val (yld_field Tryz.runUnderlying41 rfl rfl rfl Tryz.sizeOf3) rfl ?_))))
     refine ops_val (yld_load 0 Tryz.isAgg3 rfl rfl rfl) rfl ?_
     rcases form_kind hform2 with hk | hk | hk
     ·
      refine ops_val (yld_eq (yld_indexA Tryz.runUnderlying98 Tryz.sizeOf97 rfl rfl (by omega) (by omega)) (show _ = Value.pointer (some ⟨b4, 1, none⟩) from by rw [hk]; rfl)) rfl ?_
      refine ops_val (yld_load 2 Tryz.isAgg97 rfl rfl rfl) rfl ?_
      refine ops_val (yld_lenS Tryz.runUnderlying97 rfl) rfl ?_
      refine ops_val (yld_move rfl) rfl (ops_nil (fin_next rfl (run_block (ok_fr [(0, .slice pad (List.length p) pcap), (3, .pointer (some ⟨b1, 0, none⟩)), (8, .pointer (some ⟨b2, 0, none⟩)), (9, .pointer (some ⟨b3, 0, none⟩)), (12, .pointer (some ⟨b4, 0, none⟩)), (14, .pointer (some ⟨b5, 0, none⟩)), (62, .slice (Cl.fad c) (List.length (Cl.facts c)) (Cl.fcap c)), (63, .int .i64 (List.length (Cl.facts c) : Int)), (64, .int .i64 (k : Int)), (71, .slice (some ⟨r1, 0, none⟩) 6 6), (72, .int .i64 6), (73, .int .i64 ((0 : Nat) : Int))] ⟨rfl, rfl, rfl, rfl, rfl, rfl, rfl, rfl, rfl, rfl, rfl, rfl, trivial⟩ ?_))))
      refine ok_weak (H' := ((b1, .cells #[.slice (Cl.aad c) (List.length (Cl.atoms c)) (Cl.acap c), .slice (Cl.fad c) (List.length (Cl.facts c)) (Cl.fcap c)] 28 (0, 0)) :: ((b4, .cells #[.slice none 0 0, .slice (some ⟨r1, 0, none⟩) 6 6, .slice (some ⟨r2, 0, none⟩) 4 4, .slice (some ⟨r3, 0, none⟩) 2 2] 98 (0, 0)) :: ((b5, .cells #[.int .i64 (Fc.kind f2), str (Fc.a f2), str (Fc.b f2), str (Fc.r f2), .int .i64 (Fc.lo f2), .int .i64 (Fc.hi f2)] 41 (0, 0)) :: (Ha ++ (Hu ++ (Ho ++ (Hi ++ (Hr ++ (Hm ++ Hs)))))))))) (Γ' := [rowF (some ⟨r1, 0, none⟩) (List.flatMap fvC (rlV g 1)), rowF (some ⟨r2, 0, none⟩) (List.flatMap fvC (rlV g 2)), rowF (some ⟨r3, 0, none⟩) (List.flatMap fvC (rlV g 3)), rowF aad (List.flatMap strC (atS p)), mlF Tryz.prog 171 Ky.val Pc.cells pb (pmOf (uniq [] p)) adr, objF g (.cells #[.map (some pb), .slice lad (List.length (loopsOf (uniq [] p))) lcap, .map (some kb), .func (.func 67) #[] #[.pointer (some ⟨b2, 0, none⟩), .pointer (some ⟨b3, 0, none⟩)], .map (some ab), .map (some ub), .map (some ob), .map (some ib), .map (some rb), .map (some sb), .map (some fb)] 94 (0, 0)), objF b3 (.cells #[.map (some nb)] 88 (0, 0)), objF b2 (.cells #[.pointer (some ⟨g, 0, none⟩)] 85 (0, 0)), rowF lad (List.flatMap strC (loopsOf (uniq [] p))), rowF pad (List.flatMap Pc.cells p), tabN, rowF (Cl.aad c) (List.flatMap strC (Cl.atoms c)), rowF (Cl.fad c) (List.flatMap Fc.cells (Cl.facts c))]) (pf_takeB (pf_cons pf_here) (pf_takeB (pf_cons pf_here) (pf_takeB pf_here (pf_takeO pf_hereO (pf_takeO pf_hereO (pf_takeO pf_hereO (pf_takeO pf_hereO (pf_takeO pf_hereO (pf_takeO pf_hereO pf_end))))))))) (fun v _ h => by exact ⟨h.1, h.2.1, h.2.2.1, h.2.2.2.1, h.2.2.2.2.1, h.2.2.2.2.2.1, h.2.2.2.2.2.2.1, h.2.2.2.2.2.2.2.1, h.2.2.2.2.2.2.2.2.1, h.2.2.2.2.2.2.2.2.2.1, h.2.2.2.2.2.2.2.2.2.2.1, h.2.2.2.2.2.2.2.2.2.2.2.1, h.2.2.2.2.2.2.2.2.2.2.2.2.1, trivial⟩) ?_
      refine run_loop (ι := {y : Nat × Hp // y.1 ≤ 6 ∧ ((EN (Cl.facts c) (EngB.mk g pb ab ub ob ib rb sb lad lcap (loopsOf (uniq [] p))) b2 b3 kb fb nb)).St (rls (stpN (Cl.facts c)) (kofN (Cl.facts c)) (pmOf (uniq [] p)) x f2 y.1 (q, fm)).1 (rls (stpN (Cl.facts c)) (kofN (Cl.facts c)) (pmOf (uniq [] p)) x f2 y.1 (q, fm)).2 y.2}) (fun y => [(0, .slice pad (List.length p) pcap), (3, .pointer (some ⟨b1, 0, none⟩)), (8, .pointer (some ⟨b2, 0, none⟩)), (9, .pointer (some ⟨b3, 0, none⟩)), (12, .pointer (some ⟨b4, 0, none⟩)), (14, .pointer (some ⟨b5, 0, none⟩)), (62, .slice (Cl.fad c) (List.length (Cl.facts c)) (Cl.fcap c)), (63, .int .i64 (List.length (Cl.facts c) : Int)), (64, .int .i64 (k : Int)), (71, .slice (some ⟨r1, 0, none⟩) 6 6), (72, .int .i64 6), (73, .int .i64 (y.1.1 : Int))]) (fun y => ((b1, .cells #[.slice (Cl.aad c) (List.length (Cl.atoms c)) (Cl.acap c), .slice (Cl.fad c) (List.length (Cl.facts c)) (Cl.fcap c)] 28 (0, 0)) :: ((b4, .cells #[.slice none 0 0, .slice (some ⟨r1, 0, none⟩) 6 6, .slice (some ⟨r2, 0, none⟩) 4 4, .slice (some ⟨r3, 0, none⟩) 2 2] 98 (0, 0)) :: ((b5, .cells #[.int .i64 (Fc.kind f2), str (Fc.a f2), str (Fc.b f2), str (Fc.r f2), .int .i64 (Fc.lo f2), .int .i64 (Fc.hi f2)] 41 (0, 0)) :: (Ha ++ (Hu ++ (Ho ++ (Hi ++ (Hr ++ (Hm ++ y.1.2)))))))))) (fun y => [rowF (some ⟨r1, 0, none⟩) (List.flatMap fvC (rlV g 1)), rowF (some ⟨r2, 0, none⟩) (List.flatMap fvC (rlV g 2)), rowF (some ⟨r3, 0, none⟩) (List.flatMap fvC (rlV g 3)), rowF aad (List.flatMap strC (atS p)), mlF Tryz.prog 171 Ky.val Pc.cells pb (pmOf (uniq [] p)) adr, objF g (.cells #[.map (some pb), .slice lad (List.length (loopsOf (uniq [] p))) lcap, .map (some kb), .func (.func 67) #[] #[.pointer (some ⟨b2, 0, none⟩), .pointer (some ⟨b3, 0, none⟩)], .map (some ab), .map (some ub), .map (some ob), .map (some ib), .map (some rb), .map (some sb), .map (some fb)] 94 (0, 0)), objF b3 (.cells #[.map (some nb)] 88 (0, 0)), objF b2 (.cells #[.pointer (some ⟨g, 0, none⟩)] 85 (0, 0)), rowF lad (List.flatMap strC (loopsOf (uniq [] p))), rowF pad (List.flatMap Pc.cells p), tabN, rowF (Cl.aad c) (List.flatMap strC (Cl.atoms c)), rowF (Cl.fad c) (List.flatMap Fc.cells (Cl.facts c))]) (fun y => 6 - y.1.1) ⟨((0 : Nat), Hs), by omega, by exact hS⟩ ?_
      rintro ⟨⟨j, Hs⟩, hj, hS2⟩
      dsimp only at hj hS2 ⊢
      refine ok_fr [(0, .slice pad (List.length p) pcap), (3, .pointer (some ⟨b1, 0, none⟩)), (8, .pointer (some ⟨b2, 0, none⟩)), (9, .pointer (some ⟨b3, 0, none⟩)), (12, .pointer (some ⟨b4, 0, none⟩)), (14, .pointer (some ⟨b5, 0, none⟩)), (62, .slice (Cl.fad c) (List.length (Cl.facts c)) (Cl.fcap c)), (63, .int .i64 (List.length (Cl.facts c) : Int)), (64, .int .i64 (k : Int)), (71, .slice (some ⟨r1, 0, none⟩) 6 6), (72, .int .i64 6), (73, .int .i64 (j : Int))] ⟨rfl, rfl, rfl, rfl, rfl, rfl, rfl, rfl, rfl, rfl, rfl, rfl, trivial⟩ ?_
      refine run_seq (run_region (ops_valB (yld_lss rfl rfl) rfl fun r5 hr5 => ?_))
      refine ops_nil (fin_next rfl (run_seq ?_))
      cases r5
      ·
       replace hr5 := of_decide_eq_false hr5
       have ej : j = 6 := by omega
       rw [ej] at hS2
       refine run_cond_f rfl (run_exit rfl (fin_next rfl (run_region (ops_val (yld_arith rfl rfl rfl (wrap64 (by omega) (by omega))) rfl ?_))))
       refine ops_val (yld_move rfl) rfl (ops_nil (fin_inv rfl ?_))
       exact ok_again ⟨(k + 1, (rls (stpN (Cl.facts c)) (kofN (Cl.facts c)) (pmOf (uniq [] p)) x f2 6 (q, fm)).1, (rls (stpN (Cl.facts c)) (kofN (Cl.facts c)) (pmOf (uniq [] p)) x f2 6 (q, fm)).2, Hs), hlf2, (invN_step hvk hxo hform hN hf2 (by have e : nrl f2 = 6 := (by unfold nrl; simp [hk]); rw [e])), by exact (by exact hS2)⟩ (by dsimp only; omega) ⟨rfl, rfl, rfl, rfl, rfl, rfl, rfl, rfl, trivial⟩ (pf_takeB pf_here (pf_takeB pf_here (pf_takeO (pf_cons pf_hereO) (pf_takeO (pf_cons pf_hereO) (pf_takeO (pf_cons pf_hereO) (pf_takeO (pf_cons pf_hereO) (pf_takeO (pf_cons pf_hereO) (pf_takeO (pf_cons pf_hereO) pf_lastB)))))))) (fun v _ h => by exact ⟨h.1, h.2.1, h.2.2.1, h.2.2.2.1, h.2.2.2.2.1, h.2.2.2.2.2.1, h.2.2.2.2.2.2.1, h.2.2.2.2.2.2.2.1, h.2.2.2.2.2.2.2.2.1, h.2.2.2.2.2.2.2.2.2.1, h.2.2.2.2.2.2.2.2.2.2.1, h.2.2.2.2.2.2.2.2.2.2.2.1, h.2.2.2.2.2.2.2.2.2.2.2.2.1, trivial⟩)
      ·
       replace hr5 := of_decide_eq_true hr5
       have hlfv : j < List.length (rlV g 1) := by show j < 6; omega
       obtain ⟨fv, hfv⟩ : ∃ e0, (rlV g 1)[j]? = some e0 := ⟨_, List.getElem?_eq_getElem hlfv⟩
       have hmfv : fv ∈ (rlV g 1) := List.mem_of_getElem? hfv
       refine run_cond_t rfl (run_skip (fin_next rfl (run_seq (run_block (run_seq (run_region (ops_val (yld_indexR Tryz.runUnderlying97 Tryz.sizeOf89 rfl rfl (fun v _ h => row_adr (n := 1) fvC_len (by decide) (by exact h.1) hfv) (by omega) (by omega)) rfl ?_)))))))
       refine ops_val (yld_loadR (ad := (some ⟨r1, 0, none⟩)) Tryz.isAgg89 rfl (fun v _ h => by exact h.1) (row_cells fvC_len hfv 0 _ rfl)) rfl ?_
       refine ops_val (yld_assign rfl) rfl (ops_nil (fin_next rfl (run_region (ops_val (yld_move rfl) rfl (ops_val (yld_loadS 2 Tryz.isAgg41 Tryz.sizeOf41 rfl rfl rfl) rfl ?_)))))
       obtain ⟨nr, rfl, hT⟩ := rule1_c (EngB.mk g pb ab ub ob ib rb sb lad lcap (loopsOf (uniq [] p))) (EN (Cl.facts c) (EngB.mk g pb ab ub ob ib rb sb lad lcap (loopsOf (uniq [] p))) b2 b3 kb fb nb) (EngA.mk adr (fun _ => (none, 0)) (fun _ => (none, 0)) (fun _ => (none, 0)) (fun _ => (none, 0)) (fun _ => (none, 0)) (fun _ => (none, 0))) (pmOf (uniq [] p)) x f2 (rls (stpN (Cl.facts c)) (kofN (Cl.facts c)) (pmOf (uniq [] p)) x f2 j (q, fm)).1 (rls (stpN (Cl.facts c)) (kofN (Cl.facts c)) (pmOf (uniq [] p)) x f2 j (q, fm)).2 Hs hS2 Ha Hu Ho Hi Hr Hm hI hpl hxl hyl (fun hk => (form3 hform2 hk).2.2) (fun _ y hy => (hvk y (pm9.1 hy).1).num (.inr (pm9.1 hy).2.1)) hk j hfv
       refine ops_calld (first := [.pointer (some ⟨g, 0, none⟩)]) (vs := [Fc.val f2]) (cap := []) hT rfl rfl (pf_six (pf_takeO (pf_cons (pf_cons (pf_cons pf_hereO))) (pf_takeO (pf_cons (pf_cons (pf_cons pf_hereO))) (pf_takeO (pf_cons (pf_cons (pf_cons pf_hereO))) (pf_takeO (pf_cons (pf_cons (pf_cons pf_hereO))) (pf_takeO (pf_cons (pf_cons (pf_cons pf_hereO))) (pf_takeO (pf_cons (pf_cons (pf_cons pf_hereO))) (pf_cons (pf_cons pf_lastB))))))))) (fun v _ h => by exact ⟨h.2.2.2.2.2.1, h.2.2.2.2.1, ⟨h.2.2.2.2.2.2.2.1, h.2.2.2.2.2.2.1, h.2.2.2.2.2.1⟩, trivial⟩) rfl fun ⟨Hs3, hS3⟩ => ?_
       refine ok_perm pf_sixR ?_
       refine ops_nil (fin_next rfl (ok_perm (pf_fB (pf_app (pf_app (pf_app (pf_app (pf_app (pf_app (pf_app pf_here))))))) (pf_fB (pf_app (pf_app (pf_app (pf_app (pf_app (pf_app (pf_app pf_here))))))) (pf_f1 (pf_app (pf_app (pf_app (pf_app (pf_app (pf_app pf_last))))))))) ?_))
       refine run_region (ops_val (yld_arith rfl rfl rfl (wrap64 (by omega) (by omega))) rfl ?_)
       refine ops_val (yld_move rfl) rfl (ops_nil (fin_inv rfl ?_))
       exact ok_again ⟨(j + 1, Hs3), hlfv, by exact hS3⟩ (by dsimp only; omega) ⟨rfl, rfl, rfl, rfl, rfl, rfl, rfl, rfl, rfl, rfl, rfl, rfl, trivial⟩ (pf_takeB pf_here (pf_takeB pf_here (pf_takeB pf_here (pf_takeO pf_hereO (pf_takeO pf_hereO (pf_takeO pf_hereO (pf_takeO pf_hereO (pf_takeO pf_hereO (pf_takeO pf_hereO pf_end))))))))) (fun v _ h => by exact ⟨h.1, h.2.1, h.2.2.1, h.2.2.2.1, h.2.2.2.2.1, h.2.2.2.2.2.1, h.2.2.2.2.2.2.1, h.2.2.2.2.2.2.2.1, h.2.2.2.2.2.2.2.2.1, h.2.2.2.2.2.2.2.2.2.1, h.2.2.2.2.2.2.2.2.2.2.1, h.2.2.2.2.2.2.2.2.2.2.2.1, h.2.2.2.2.2.2.2.2.2.2.2.2.1, trivial⟩)
     ·
      refine ops_val (yld_eq (yld_indexA Tryz.runUnderlying98 Tryz.sizeOf97 rfl rfl (by omega) (by omega)) (show _ = Value.pointer (some ⟨b4, 2, none⟩) from by rw [hk]; rfl)) rfl ?_
      refine ops_val (yld_load 2 Tryz.isAgg97 rfl rfl rfl) rfl ?_
      refine ops_val (yld_lenS Tryz.runUnderlying97 rfl) rfl ?_
      refine ops_val (yld_move rfl) rfl (ops_nil (fin_next rfl (run_block (ok_fr [(0, .slice pad (List.length p) pcap), (3, .pointer (some ⟨b1, 0, none⟩)), (8, .pointer (some ⟨b2, 0, none⟩)), (9, .pointer (some ⟨b3, 0, none⟩)), (12, .pointer (some ⟨b4, 0, none⟩)), (14, .pointer (some ⟨b5, 0, none⟩)), (62, .slice (Cl.fad c) (List.length (Cl.facts c)) (Cl.fcap c)), (63, .int .i64 (List.length (Cl.facts c) : Int)), (64, .int .i64 (k : Int)), (71, .slice (some ⟨r2, 0, none⟩) 4 4), (72, .int .i64 4), (73, .int .i64 ((0 : Nat) : Int))] ⟨rfl, rfl, rfl, rfl, rfl, rfl, rfl, rfl, rfl, rfl, rfl, rfl, trivial⟩ ?_))))
      refine ok_weak (H' := ((b1, .cells #[.slice (Cl.aad c) (List.length (Cl.atoms c)) (Cl.acap c), .slice (Cl.fad c) (List.length (Cl.facts c)) (Cl.fcap c)] 28 (0, 0)) :: ((b4, .cells #[.slice none 0 0, .slice (some ⟨r1, 0, none⟩) 6 6, .slice (some ⟨r2, 0, none⟩) 4 4, .slice (some ⟨r3, 0, none⟩) 2 2] 98 (0, 0)) :: ((b5, .cells #[.int .i64 (Fc.kind f2), str (Fc.a f2), str (Fc.b f2), str (Fc.r f2), .int .i64 (Fc.lo f2), .int .i64 (Fc.hi f2)] 41 (0, 0)) :: (Ha ++ (Hu ++ (Ho ++ (Hi ++ (Hr ++ (Hm ++ Hs)))))))))) (Γ' := [rowF (some ⟨r1, 0, none⟩) (List.flatMap fvC (rlV g 1)), rowF (some ⟨r2, 0, none⟩) (List.flatMap fvC (rlV g 2)), rowF (some ⟨r3, 0, none⟩) (List.flatMap fvC (rlV g 3)), rowF aad (List.flatMap strC (atS p)), mlF Tryz.prog 171 Ky.val Pc.cells pb (pmOf (uniq [] p)) adr, objF g (.cells #[.map (some pb), .slice lad (List.length (loopsOf (uniq [] p))) lcap, .map (some kb), .func (.func 67) #[] #[.pointer (some ⟨b2, 0, none⟩), .pointer (some ⟨b3, 0, none⟩)], .map (some ab), .map (some ub), .map (some ob), .map (some ib), .map (some rb), .map (some sb), .map (some fb)] 94 (0, 0)), objF b3 (.cells #[.map (some nb)] 88 (0, 0)), objF b2 (.cells #[.pointer (some ⟨g, 0, none⟩)] 85 (0, 0)), rowF lad (List.flatMap strC (loopsOf (uniq [] p))), rowF pad (List.flatMap Pc.cells p), tabN, rowF (Cl.aad c) (List.flatMap strC (Cl.atoms c)), rowF (Cl.fad c) (List.flatMap Fc.cells (Cl.facts c))]) (pf_takeB (pf_cons pf_here) (pf_takeB (pf_cons pf_here) (pf_takeB pf_here (pf_takeO pf_hereO (pf_takeO pf_hereO (pf_takeO pf_hereO (pf_takeO pf_hereO (pf_takeO pf_hereO (pf_takeO pf_hereO pf_end))))))))) (fun v _ h => by exact ⟨h.1, h.2.1, h.2.2.1, h.2.2.2.1, h.2.2.2.2.1, h.2.2.2.2.2.1, h.2.2.2.2.2.2.1, h.2.2.2.2.2.2.2.1, h.2.2.2.2.2.2.2.2.1, h.2.2.2.2.2.2.2.2.2.1, h.2.2.2.2.2.2.2.2.2.2.1, h.2.2.2.2.2.2.2.2.2.2.2.1, h.2.2.2.2.2.2.2.2.2.2.2.2.1, trivial⟩) ?_
      refine run_loop (ι := {y : Nat × Hp // y.1 ≤ 4 ∧ ((EN (Cl.facts c) (EngB.mk g pb ab ub ob ib rb sb lad lcap (loopsOf (uniq [] p))) b2 b3 kb fb nb)).St (rls (stpN (Cl.facts c)) (kofN (Cl.facts c)) (pmOf (uniq [] p)) x f2 y.1 (q, fm)).1 (rls (stpN (Cl.facts c)) (kofN (Cl.facts c)) (pmOf (uniq [] p)) x f2 y.1 (q, fm)).2 y.2}) (fun y => [(0, .slice pad (List.length p) pcap), (3, .pointer (some ⟨b1, 0, none⟩)), (8, .pointer (some ⟨b2, 0, none⟩)), (9, .pointer (some ⟨b3, 0, none⟩)), (12, .pointer (some ⟨b4, 0, none⟩)), (14, .pointer (some ⟨b5, 0, none⟩)), (62, .slice (Cl.fad c) (List.length (Cl.facts c)) (Cl.fcap c)), (63, .int .i64 (List.length (Cl.facts c) : Int)), (64, .int .i64 (k : Int)), (71, .slice (some ⟨r2, 0, none⟩) 4 4), (72, .int .i64 4), (73, .int .i64 (y.1.1 : Int))]) (fun y => ((b1, .cells #[.slice (Cl.aad c) (List.length (Cl.atoms c)) (Cl.acap c), .slice (Cl.fad c) (List.length (Cl.facts c)) (Cl.fcap c)] 28 (0, 0)) :: ((b4, .cells #[.slice none 0 0, .slice (some ⟨r1, 0, none⟩) 6 6, .slice (some ⟨r2, 0, none⟩) 4 4, .slice (some ⟨r3, 0, none⟩) 2 2] 98 (0, 0)) :: ((b5, .cells #[.int .i64 (Fc.kind f2), str (Fc.a f2), str (Fc.b f2), str (Fc.r f2), .int .i64 (Fc.lo f2), .int .i64 (Fc.hi f2)] 41 (0, 0)) :: (Ha ++ (Hu ++ (Ho ++ (Hi ++ (Hr ++ (Hm ++ y.1.2)))))))))) (fun y => [rowF (some ⟨r1, 0, none⟩) (List.flatMap fvC (rlV g 1)), rowF (some ⟨r2, 0, none⟩) (List.flatMap fvC (rlV g 2)), rowF (some ⟨r3, 0, none⟩) (List.flatMap fvC (rlV g 3)), rowF aad (List.flatMap strC (atS p)), mlF Tryz.prog 171 Ky.val Pc.cells pb (pmOf (uniq [] p)) adr, objF g (.cells #[.map (some pb), .slice lad (List.length (loopsOf (uniq [] p))) lcap, .map (some kb), .func (.func 67) #[] #[.pointer (some ⟨b2, 0, none⟩), .pointer (some ⟨b3, 0, none⟩)], .map (some ab), .map (some ub), .map (some ob), .map (some ib), .map (some rb), .map (some sb), .map (some fb)] 94 (0, 0)), objF b3 (.cells #[.map (some nb)] 88 (0, 0)), objF b2 (.cells #[.pointer (some ⟨g, 0, none⟩)] 85 (0, 0)), rowF lad (List.flatMap strC (loopsOf (uniq [] p))), rowF pad (List.flatMap Pc.cells p), tabN, rowF (Cl.aad c) (List.flatMap strC (Cl.atoms c)), rowF (Cl.fad c) (List.flatMap Fc.cells (Cl.facts c))]) (fun y => 4 - y.1.1) ⟨((0 : Nat), Hs), by omega, by exact hS⟩ ?_
      rintro ⟨⟨j, Hs⟩, hj, hS2⟩
      dsimp only at hj hS2 ⊢
      refine ok_fr [(0, .slice pad (List.length p) pcap), (3, .pointer (some ⟨b1, 0, none⟩)), (8, .pointer (some ⟨b2, 0, none⟩)), (9, .pointer (some ⟨b3, 0, none⟩)), (12, .pointer (some ⟨b4, 0, none⟩)), (14, .pointer (some ⟨b5, 0, none⟩)), (62, .slice (Cl.fad c) (List.length (Cl.facts c)) (Cl.fcap c)), (63, .int .i64 (List.length (Cl.facts c) : Int)), (64, .int .i64 (k : Int)), (71, .slice (some ⟨r2, 0, none⟩) 4 4), (72, .int .i64 4), (73, .int .i64 (j : Int))] ⟨rfl, rfl, rfl, rfl, rfl, rfl, rfl, rfl, rfl, rfl, rfl, rfl, trivial⟩ ?_
      refine run_seq (run_region (ops_valB (yld_lss rfl rfl) rfl fun r6 hr6 => ?_))
      refine ops_nil (fin_next rfl (run_seq ?_))
      cases r6
      ·
       replace hr6 := of_decide_eq_false hr6
       have ej : j = 4 := by omega
       rw [ej] at hS2
       refine run_cond_f rfl (run_exit rfl (fin_next rfl (run_region (ops_val (yld_arith rfl rfl rfl (wrap64 (by omega) (by omega))) rfl ?_))))
       refine ops_val (yld_move rfl) rfl (ops_nil (fin_inv rfl ?_))
       exact ok_again ⟨(k + 1, (rls (stpN (Cl.facts c)) (kofN (Cl.facts c)) (pmOf (uniq [] p)) x f2 4 (q, fm)).1, (rls (stpN (Cl.facts c)) (kofN (Cl.facts c)) (pmOf (uniq [] p)) x f2 4 (q, fm)).2, Hs), hlf2, (invN_step hvk hxo hform hN hf2 (by have e : nrl f2 = 4 := (by unfold nrl; simp [hk]); rw [e])), by exact (by exact hS2)⟩ (by dsimp only; omega) ⟨rfl, rfl, rfl, rfl, rfl, rfl, rfl, rfl, trivial⟩ (pf_takeB pf_here (pf_takeB pf_here (pf_takeO (pf_cons pf_hereO) (pf_takeO (pf_cons pf_hereO) (pf_takeO (pf_cons pf_hereO) (pf_takeO (pf_cons pf_hereO) (pf_takeO (pf_cons pf_hereO) (pf_takeO (pf_cons pf_hereO) pf_lastB)))))))) (fun v _ h => by exact ⟨h.1, h.2.1, h.2.2.1, h.2.2.2.1, h.2.2.2.2.1, h.2.2.2.2.2.1, h.2.2.2.2.2.2.1, h.2.2.2.2.2.2.2.1, h.2.2.2.2.2.2.2.2.1, h.2.2.2.2.2.2.2.2.2.1, h.2.2.2.2.2.2.2.2.2.2.1, h.2.2.2.2.2.2.2.2.2.2.2.1, h.2.2.2.2.2.2.2.2.2.2.2.2.1, trivial⟩)
      ·
       replace hr6 := of_decide_eq_true hr6
       have hlfv : j < List.length (rlV g 2) := by show j < 4; omega
       obtain ⟨fv, hfv⟩ : ∃ e0, (rlV g 2)[j]? = some e0 := ⟨_, List.getElem?_eq_getElem hlfv⟩
       have hmfv : fv ∈ (rlV g 2) := List.mem_of_getElem? hfv
       refine run_cond_t rfl (run_skip (fin_next rfl (run_seq (run_block (run_seq (run_region (ops_val (yld_indexR Tryz.runUnderlying97 Tryz.sizeOf89 rfl rfl (fun v _ h => row_adr (n := 1) fvC_len (by decide) (by exact h.2.1) hfv) (by omega) (by omega)) rfl ?_)))))))
       refine ops_val (yld_loadR (ad := (some ⟨r2, 0, none⟩)) Tryz.isAgg89 rfl (fun v _ h => by exact h.2.1) (row_cells fvC_len hfv 0 _ rfl)) rfl ?_
       refine ops_val (yld_assign rfl) rfl (ops_nil (fin_next rfl (run_region (ops_val (yld_move rfl) rfl (ops_val (yld_loadS 2 Tryz.isAgg41 Tryz.sizeOf41 rfl rfl rfl) rfl ?_)))))
       obtain ⟨nr, rfl, hT⟩ := rule2_c (EngB.mk g pb ab ub ob ib rb sb lad lcap (loopsOf (uniq [] p))) (EN (Cl.facts c) (EngB.mk g pb ab ub ob ib rb sb lad lcap (loopsOf (uniq [] p))) b2 b3 kb fb nb) (EngA.mk adr (fun _ => (none, 0)) (fun _ => (none, 0)) (fun _ => (none, 0)) (fun _ => (none, 0)) (fun _ => (none, 0)) (fun _ => (none, 0))) (pmOf (uniq [] p)) x f2 (rls (stpN (Cl.facts c)) (kofN (Cl.facts c)) (pmOf (uniq [] p)) x f2 j (q, fm)).1 (rls (stpN (Cl.facts c)) (kofN (Cl.facts c)) (pmOf (uniq [] p)) x f2 j (q, fm)).2 Hs hS2 Ha Hu Ho Hi Hr Hm hI hpl hxl hyl (fun hk => (form3 hform2 hk).2.2) (fun _ y hy => (hvk y (pm9.1 hy).1).num (.inr (pm9.1 hy).2.1)) hk j hfv
       refine ops_calld (first := [.pointer (some ⟨g, 0, none⟩)]) (vs := [Fc.val f2]) (cap := []) hT rfl rfl (pf_six (pf_takeO (pf_cons (pf_cons (pf_cons pf_hereO))) (pf_takeO (pf_cons (pf_cons (pf_cons pf_hereO))) (pf_takeO (pf_cons (pf_cons (pf_cons pf_hereO))) (pf_takeO (pf_cons (pf_cons (pf_cons pf_hereO))) (pf_takeO (pf_cons (pf_cons (pf_cons pf_hereO))) (pf_takeO (pf_cons (pf_cons (pf_cons pf_hereO))) (pf_cons (pf_cons pf_lastB))))))))) (fun v _ h => by exact ⟨h.2.2.2.2.2.1, h.2.2.2.2.1, ⟨h.2.2.2.2.2.2.2.1, h.2.2.2.2.2.2.1, h.2.2.2.2.2.1⟩, trivial⟩) rfl fun ⟨Hs3, hS3⟩ => ?_
       refine ok_perm pf_sixR ?_
       refine ops_nil (fin_next rfl (ok_perm (pf_fB (pf_app (pf_app (pf_app (pf_app (pf_app (pf_app (pf_app pf_here))))))) (pf_fB (pf_app (pf_app (pf_app (pf_app (pf_app (pf_app (pf_app pf_here))))))) (pf_f1 (pf_app (pf_app (pf_app (pf_app (pf_app (pf_app pf_last))))))))) ?_))
       refine run_region (ops_val (yld_arith rfl rfl rfl (wrap64 (by omega) (by omega))) rfl ?_)
       refine ops_val (yld_move rfl) rfl (ops_nil (fin_inv rfl ?_))
       exact ok_again ⟨(j + 1, Hs3), hlfv, by exact hS3⟩ (by dsimp only; omega) ⟨rfl, rfl, rfl, rfl, rfl, rfl, rfl, rfl, rfl, rfl, rfl, rfl, trivial⟩ (pf_takeB pf_here (pf_takeB pf_here (pf_takeB pf_here (pf_takeO pf_hereO (pf_takeO pf_hereO (pf_takeO pf_hereO (pf_takeO pf_hereO (pf_takeO pf_hereO (pf_takeO pf_hereO pf_end))))))))) (fun v _ h => by exact ⟨h.1, h.2.1, h.2.2.1, h.2.2.2.1, h.2.2.2.2.1, h.2.2.2.2.2.1, h.2.2.2.2.2.2.1, h.2.2.2.2.2.2.2.1, h.2.2.2.2.2.2.2.2.1, h.2.2.2.2.2.2.2.2.2.1, h.2.2.2.2.2.2.2.2.2.2.1, h.2.2.2.2.2.2.2.2.2.2.2.1, h.2.2.2.2.2.2.2.2.2.2.2.2.1, trivial⟩)
     ·
      refine ops_val (yld_eq (yld_indexA Tryz.runUnderlying98 Tryz.sizeOf97 rfl rfl (by omega) (by omega)) (show _ = Value.pointer (some ⟨b4, 3, none⟩) from by rw [hk]; rfl)) rfl ?_
      refine ops_val (yld_load 2 Tryz.isAgg97 rfl rfl rfl) rfl ?_
      refine ops_val (yld_lenS Tryz.runUnderlying97 rfl) rfl ?_
      refine ops_val (yld_move rfl) rfl (ops_nil (fin_next rfl (run_block (ok_fr [(0, .slice pad (List.length p) pcap), (3, .pointer (some ⟨b1, 0, none⟩)), (8, .pointer (some ⟨b2, 0, none⟩)), (9, .pointer (some ⟨b3, 0, none⟩)), (12, .pointer (some ⟨b4, 0, none⟩)), (14, .pointer (some ⟨b5, 0, none⟩)), (62, .slice (Cl.fad c) (List.length (Cl.facts c)) (Cl.fcap c)), (63, .int .i64 (List.length (Cl.facts c) : Int)), (64, .int .i64 (k : Int)), (71, .slice (some ⟨r3, 0, none⟩) 2 2), (72, .int .i64 2), (73, .int .i64 ((0 : Nat) : Int))] ⟨rfl, rfl, rfl, rfl, rfl, rfl, rfl, rfl, rfl, rfl, rfl, rfl, trivial⟩ ?_))))
      refine ok_weak (H' := ((b1, .cells #[.slice (Cl.aad c) (List.length (Cl.atoms c)) (Cl.acap c), .slice (Cl.fad c) (List.length (Cl.facts c)) (Cl.fcap c)] 28 (0, 0)) :: ((b4, .cells #[.slice none 0 0, .slice (some ⟨r1, 0, none⟩) 6 6, .slice (some ⟨r2, 0, none⟩) 4 4, .slice (some ⟨r3, 0, none⟩) 2 2] 98 (0, 0)) :: ((b5, .cells #[.int .i64 (Fc.kind f2), str (Fc.a f2), str (Fc.b f2), str (Fc.r f2), .int .i64 (Fc.lo f2), .int .i64 (Fc.hi f2)] 41 (0, 0)) :: (Ha ++ (Hu ++ (Ho ++ (Hi ++ (Hr ++ (Hm ++ Hs)))))))))) (Γ' := [rowF (some ⟨r1, 0, none⟩) (List.flatMap fvC (rlV g 1)), rowF (some ⟨r2, 0, none⟩) (List.flatMap fvC (rlV g 2)), rowF (some ⟨r3, 0, none⟩) (List.flatMap fvC (rlV g 3)), rowF aad (List.flatMap strC (atS p)), mlF Tryz.prog 171 Ky.val Pc.cells pb (pmOf (uniq [] p)) adr, objF g (.cells #[.map (some pb), .slice lad (List.length (loopsOf (uniq [] p))) lcap, .map (some kb), .func (.func 67) #[] #[.pointer (some ⟨b2, 0, none⟩), .pointer (some ⟨b3, 0, none⟩)], .map (some ab), .map (some ub), .map (some ob), .map (some ib), .map (some rb), .map (some sb), .map (some fb)] 94 (0, 0)), objF b3 (.cells #[.map (some nb)] 88 (0, 0)), objF b2 (.cells #[.pointer (some ⟨g, 0, none⟩)] 85 (0, 0)), rowF lad (List.flatMap strC (loopsOf (uniq [] p))), rowF pad (List.flatMap Pc.cells p), tabN, rowF (Cl.aad c) (List.flatMap strC (Cl.atoms c)), rowF (Cl.fad c) (List.flatMap Fc.cells (Cl.facts c))]) (pf_takeB (pf_cons pf_here) (pf_takeB (pf_cons pf_here) (pf_takeB pf_here (pf_takeO pf_hereO (pf_takeO pf_hereO (pf_takeO pf_hereO (pf_takeO pf_hereO (pf_takeO pf_hereO (pf_takeO pf_hereO pf_end))))))))) (fun v _ h => by exact ⟨h.1, h.2.1, h.2.2.1, h.2.2.2.1, h.2.2.2.2.1, h.2.2.2.2.2.1, h.2.2.2.2.2.2.1, h.2.2.2.2.2.2.2.1, h.2.2.2.2.2.2.2.2.1, h.2.2.2.2.2.2.2.2.2.1, h.2.2.2.2.2.2.2.2.2.2.1, h.2.2.2.2.2.2.2.2.2.2.2.1, h.2.2.2.2.2.2.2.2.2.2.2.2.1, trivial⟩) ?_
      refine run_loop (ι := {y : Nat × Hp // y.1 ≤ 2 ∧ ((EN (Cl.facts c) (EngB.mk g pb ab ub ob ib rb sb lad lcap (loopsOf (uniq [] p))) b2 b3 kb fb nb)).St (rls (stpN (Cl.facts c)) (kofN (Cl.facts c)) (pmOf (uniq [] p)) x f2 y.1 (q, fm)).1 (rls (stpN (Cl.facts c)) (kofN (Cl.facts c)) (pmOf (uniq [] p)) x f2 y.1 (q, fm)).2 y.2}) (fun y => [(0, .slice pad (List.length p) pcap), (3, .pointer (some ⟨b1, 0, none⟩)), (8, .pointer (some ⟨b2, 0, none⟩)), (9, .pointer (some ⟨b3, 0, none⟩)), (12, .pointer (some ⟨b4, 0, none⟩)), (14, .pointer (some ⟨b5, 0, none⟩)), (62, .slice (Cl.fad c) (List.length (Cl.facts c)) (Cl.fcap c)), (63, .int .i64 (List.length (Cl.facts c) : Int)), (64, .int .i64 (k : Int)), (71, .slice (some ⟨r3, 0, none⟩) 2 2), (72, .int .i64 2), (73, .int .i64 (y.1.1 : Int))]) (fun y => ((b1, .cells #[.slice (Cl.aad c) (List.length (Cl.atoms c)) (Cl.acap c), .slice (Cl.fad c) (List.length (Cl.facts c)) (Cl.fcap c)] 28 (0, 0)) :: ((b4, .cells #[.slice none 0 0, .slice (some ⟨r1, 0, none⟩) 6 6, .slice (some ⟨r2, 0, none⟩) 4 4, .slice (some ⟨r3, 0, none⟩) 2 2] 98 (0, 0)) :: ((b5, .cells #[.int .i64 (Fc.kind f2), str (Fc.a f2), str (Fc.b f2), str (Fc.r f2), .int .i64 (Fc.lo f2), .int .i64 (Fc.hi f2)] 41 (0, 0)) :: (Ha ++ (Hu ++ (Ho ++ (Hi ++ (Hr ++ (Hm ++ y.1.2)))))))))) (fun y => [rowF (some ⟨r1, 0, none⟩) (List.flatMap fvC (rlV g 1)), rowF (some ⟨r2, 0, none⟩) (List.flatMap fvC (rlV g 2)), rowF (some ⟨r3, 0, none⟩) (List.flatMap fvC (rlV g 3)), rowF aad (List.flatMap strC (atS p)), mlF Tryz.prog 171 Ky.val Pc.cells pb (pmOf (uniq [] p)) adr, objF g (.cells #[.map (some pb), .slice lad (List.length (loopsOf (uniq [] p))) lcap, .map (some kb), .func (.func 67) #[] #[.pointer (some ⟨b2, 0, none⟩), .pointer (some ⟨b3, 0, none⟩)], .map (some ab), .map (some ub), .map (some ob), .map (some ib), .map (some rb), .map (some sb), .map (some fb)] 94 (0, 0)), objF b3 (.cells #[.map (some nb)] 88 (0, 0)), objF b2 (.cells #[.pointer (some ⟨g, 0, none⟩)] 85 (0, 0)), rowF lad (List.flatMap strC (loopsOf (uniq [] p))), rowF pad (List.flatMap Pc.cells p), tabN, rowF (Cl.aad c) (List.flatMap strC (Cl.atoms c)), rowF (Cl.fad c) (List.flatMap Fc.cells (Cl.facts c))]) (fun y => 2 - y.1.1) ⟨((0 : Nat), Hs), by omega, by exact hS⟩ ?_
      rintro ⟨⟨j, Hs⟩, hj, hS2⟩
      dsimp only at hj hS2 ⊢
      refine ok_fr [(0, .slice pad (List.length p) pcap), (3, .pointer (some ⟨b1, 0, none⟩)), (8, .pointer (some ⟨b2, 0, none⟩)), (9, .pointer (some ⟨b3, 0, none⟩)), (12, .pointer (some ⟨b4, 0, none⟩)), (14, .pointer (some ⟨b5, 0, none⟩)), (62, .slice (Cl.fad c) (List.length (Cl.facts c)) (Cl.fcap c)), (63, .int .i64 (List.length (Cl.facts c) : Int)), (64, .int .i64 (k : Int)), (71, .slice (some ⟨r3, 0, none⟩) 2 2), (72, .int .i64 2), (73, .int .i64 (j : Int))] ⟨rfl, rfl, rfl, rfl, rfl, rfl, rfl, rfl, rfl, rfl, rfl, rfl, trivial⟩ ?_
      refine run_seq (run_region (ops_valB (yld_lss rfl rfl) rfl fun r7 hr7 => ?_))
      refine ops_nil (fin_next rfl (run_seq ?_))
      cases r7
      ·
       replace hr7 := of_decide_eq_false hr7
       have ej : j = 2 := by omega
       rw [ej] at hS2
       refine run_cond_f rfl (run_exit rfl (fin_next rfl (run_region (ops_val (yld_arith rfl rfl rfl (wrap64 (by omega) (by omega))) rfl ?_))))
       refine ops_val (yld_move rfl) rfl (ops_nil (fin_inv rfl ?_))
       exact ok_again ⟨(k + 1, (rls (stpN (Cl.facts c)) (kofN (Cl.facts c)) (pmOf (uniq [] p)) x f2 2 (q, fm)).1, (rls (stpN (Cl.facts c)) (kofN (Cl.facts c)) (pmOf (uniq [] p)) x f2 2 (q, fm)).2, Hs), hlf2, (invN_step hvk hxo hform hN hf2 (by have e : nrl f2 = 2 := (by unfold nrl; simp [hk]); rw [e])), by exact (by exact hS2)⟩ (by dsimp only; omega) ⟨rfl, rfl, rfl, rfl, rfl, rfl, rfl, rfl, trivial⟩ (pf_takeB pf_here (pf_takeB pf_here (pf_takeO (pf_cons pf_hereO) (pf_takeO (pf_cons pf_hereO) (pf_takeO (pf_cons pf_hereO) (pf_takeO (pf_cons pf_hereO) (pf_takeO (pf_cons pf_hereO) (pf_takeO (pf_cons pf_hereO) pf_lastB)))))))) (fun v _ h => by exact ⟨h.1, h.2.1, h.2.2.1, h.2.2.2.1, h.2.2.2.2.1, h.2.2.2.2.2.1, h.2.2.2.2.2.2.1, h.2.2.2.2.2.2.2.1, h.2.2.2.2.2.2.2.2.1, h.2.2.2.2.2.2.2.2.2.1, h.2.2.2.2.2.2.2.2.2.2.1, h.2.2.2.2.2.2.2.2.2.2.2.1, h.2.2.2.2.2.2.2.2.2.2.2.2.1, trivial⟩)
      ·
       replace hr7 := of_decide_eq_true hr7
       have hlfv : j < List.length (rlV g 3) := by show j < 2; omega
       obtain ⟨fv, hfv⟩ : ∃ e0, (rlV g 3)[j]? = some e0 := ⟨_, List.getElem?_eq_getElem hlfv⟩
       have hmfv : fv ∈ (rlV g 3) := List.mem_of_getElem? hfv
       refine run_cond_t rfl (run_skip (fin_next rfl (run_seq (run_block (run_seq (run_region (ops_val (yld_indexR Tryz.runUnderlying97 Tryz.sizeOf89 rfl rfl (fun v _ h => row_adr (n := 1) fvC_len (by decide) (by exact h.2.2.1) hfv) (by omega) (by omega)) rfl ?_)))))))
       refine ops_val (yld_loadR (ad := (some ⟨r3, 0, none⟩)) Tryz.isAgg89 rfl (fun v _ h => by exact h.2.2.1) (row_cells fvC_len hfv 0 _ rfl)) rfl ?_
       refine ops_val (yld_assign rfl) rfl (ops_nil (fin_next rfl (run_region (ops_val (yld_move rfl) rfl (ops_val (yld_loadS 2 Tryz.isAgg41 Tryz.sizeOf41 rfl rfl rfl) rfl ?_)))))
       obtain ⟨nr, rfl, hT⟩ := rule3_c (EngB.mk g pb ab ub ob ib rb sb lad lcap (loopsOf (uniq [] p))) (EN (Cl.facts c) (EngB.mk g pb ab ub ob ib rb sb lad lcap (loopsOf (uniq [] p))) b2 b3 kb fb nb) (EngA.mk adr (fun _ => (none, 0)) (fun _ => (none, 0)) (fun _ => (none, 0)) (fun _ => (none, 0)) (fun _ => (none, 0)) (fun _ => (none, 0))) (pmOf (uniq [] p)) x f2 (rls (stpN (Cl.facts c)) (kofN (Cl.facts c)) (pmOf (uniq [] p)) x f2 j (q, fm)).1 (rls (stpN (Cl.facts c)) (kofN (Cl.facts c)) (pmOf (uniq [] p)) x f2 j (q, fm)).2 Hs hS2 Ha Hu Ho Hi Hr Hm hI hpl hxl hyl (fun hk => (form3 hform2 hk).2.2) (fun _ y hy => (hvk y (pm9.1 hy).1).num (.inr (pm9.1 hy).2.1)) hk j hfv
       refine ops_calld (first := [.pointer (some ⟨g, 0, none⟩)]) (vs := [Fc.val f2]) (cap := []) hT rfl rfl (pf_six (pf_takeO (pf_cons (pf_cons (pf_cons pf_hereO))) (pf_takeO (pf_cons (pf_cons (pf_cons pf_hereO))) (pf_takeO (pf_cons (pf_cons (pf_cons pf_hereO))) (pf_takeO (pf_cons (pf_cons (pf_cons pf_hereO))) (pf_takeO (pf_cons (pf_cons (pf_cons pf_hereO))) (pf_takeO (pf_cons (pf_cons (pf_cons pf_hereO))) (pf_cons (pf_cons pf_lastB))))))))) (fun v _ h => by exact ⟨h.2.2.2.2.2.1, h.2.2.2.2.1, ⟨h.2.2.2.2.2.2.2.1, h.2.2.2.2.2.2.1, h.2.2.2.2.2.1⟩, trivial⟩) rfl fun ⟨Hs3, hS3⟩ => ?_
       refine ok_perm pf_sixR ?_
       refine ops_nil (fin_next rfl (ok_perm (pf_fB (pf_app (pf_app (pf_app (pf_app (pf_app (pf_app (pf_app pf_here))))))) (pf_fB (pf_app (pf_app (pf_app (pf_app (pf_app (pf_app (pf_app pf_here))))))) (pf_f1 (pf_app (pf_app (pf_app (pf_app (pf_app (pf_app pf_last))))))))) ?_))
       refine run_region (ops_val (yld_arith rfl rfl rfl (wrap64 (by omega) (by omega))) rfl ?_)
       refine ops_val (yld_move rfl) rfl (ops_nil (fin_inv rfl ?_))
       exact ok_again ⟨(j + 1, Hs3), hlfv, by exact hS3⟩ (by dsimp only; omega) ⟨rfl, rfl, rfl, rfl, rfl, rfl, rfl, rfl, rfl, rfl, rfl, rfl, trivial⟩ (pf_takeB pf_here (pf_takeB pf_here (pf_takeB pf_here (pf_takeO pf_hereO (pf_takeO pf_hereO (pf_takeO pf_hereO (pf_takeO pf_hereO (pf_takeO pf_hereO (pf_takeO pf_hereO pf_end))))))))) (fun v _ h => by exact ⟨h.1, h.2.1, h.2.2.1, h.2.2.2.1, h.2.2.2.2.1, h.2.2.2.2.2.1, h.2.2.2.2.2.2.1, h.2.2.2.2.2.2.2.1, h.2.2.2.2.2.2.2.2.1, h.2.2.2.2.2.2.2.2.2.1, h.2.2.2.2.2.2.2.2.2.2.1, h.2.2.2.2.2.2.2.2.2.2.2.1, h.2.2.2.2.2.2.2.2.2.2.2.2.1, trivial⟩)
   ·
    replace hr3 := of_decide_eq_true hr3
    have hlf : i < List.length (Cl.facts c) := by omega
    obtain ⟨f, hf⟩ : ∃ e0, (Cl.facts c)[i]? = some e0 := ⟨_, List.getElem?_eq_getElem hlf⟩
    have hmf : f ∈ (Cl.facts c) := List.mem_of_getElem? hf
    refine run_cond_t rfl (run_skip (fin_next rfl (run_seq (run_block (run_seq (run_region (ops_val (yld_indexR Tryz.runUnderlying26 Tryz.sizeOf41 rfl rfl (fun v _ h => row_adr (n := 6) Fc.cells_len (by decide) (by exact h.2.2.2.2.2.2.2.2.1) hf) (by omega) (by first | omega | (simp; done))) rfl ?_)))))))
    refine ops_val (yld_loadRS (ad := (Cl.fad c)) (us := Fc.cells f) Tryz.isAgg41 Tryz.sizeOf41 rfl (fun v _ h => by exact h.2.2.2.2.2.2.2.2.1) (Fc.cells_len _) (row_cells Fc.cells_len hf)) rfl ?_
    refine ops_alloc Tryz.zeroValue41 rfl fun b6 => ?_
    refine ops_store 0 Tryz.sizeOf41 rfl rfl rfl rfl rfl rfl ?_
    refine ops_nil (fin_next rfl (run_seq ?_))
    refine run_drawH ((b6, .cells #[.int .i64 (Fc.kind f), str (Fc.a f), str (Fc.b f), str (Fc.r f), .int .i64 (Fc.lo f), .int .i64 (Fc.hi f)] 41 (0, 0)) :: ((b1, .cells #[.slice (Cl.aad c) (List.length (Cl.atoms c)) (Cl.acap c), .slice (Cl.fad c) (List.length (Cl.facts c)) (Cl.fcap c)] 28 (0, 0)) :: ((nb, .map #[] 0) :: (Ha ++ (Hu ++ (Ho ++ (Hi ++ (Hr ++ Hm)))))))) (by kernel_rfl) ?_
    refine any_sq 1 [0, 1, 2, 3, 4] (by kernel_rfl) (fun _ a b => ⟨Vw.sat.sub (a.perm (pf_takeB pf_here (pf_takeB pf_here (pf_takeB pf_here (pf_takeO (pf_cons (pf_cons pf_hereO)) (pf_takeO (pf_cons (pf_cons pf_hereO)) (pf_takeO (pf_cons (pf_cons pf_hereO)) (pf_takeO (pf_cons (pf_cons pf_hereO)) (pf_takeO (pf_cons (pf_cons pf_hereO)) (pf_cons pf_lastB)))))))))), b⟩) ?_
    refine sq_val rfl (yld_loadO Tryz.isAgg85 rfl (fun v _ h => by exact h.2.2.2.1) rfl) rfl ?_
    refine sq_val rfl (yld_nilck rfl) rfl ?_
    refine sq_val rfl (yld_field Tryz.runUnderlying94 rfl rfl rfl Tryz.sizeOf88) rfl ?_
    refine sq_val rfl (yld_loadO Tryz.isAgg88 rfl (fun v _ h => by exact h.2.1) rfl) rfl ?_
    refine sq_val rfl (yld_loadS 0 Tryz.isAgg41 Tryz.sizeOf41 rfl rfl rfl) rfl ?_
    refine sq_nil ?_
    refine any_one 5 rfl (by kernel_rfl) ?_
    refine ops_join (k := f) 3 keyFc (.inr rfl) Tryz.runUnderlying88 rfl rfl rfl rfl hK fun ej1 cj1 hj1 => ?_
    refine ops_nil (fin_inv rfl (any_next (fun _ a b => ⟨Vw.sat.sub (a.perm (pf_takeB pf_here (pf_takeB pf_here (pf_takeB pf_here (pf_takeO (pf_cons (pf_cons pf_hereO)) (pf_takeO (pf_cons (pf_cons pf_hereO)) (pf_takeO (pf_cons (pf_cons pf_hereO)) (pf_takeO (pf_cons (pf_cons pf_hereO)) (pf_takeO (pf_cons (pf_cons pf_hereO)) (pf_cons pf_lastB)))))))))), b⟩) ?_))
    refine any_done (by kernel_rfl) ?_
    refine fin_next rfl (run_seq ?_)
    refine run_drawH ((b6, .cells #[.int .i64 (Fc.kind f), str (Fc.a f), str (Fc.b f), str (Fc.r f), .int .i64 (Fc.lo f), .int .i64 (Fc.hi f)] 41 (0, 0)) :: ((b1, .cells #[.slice (Cl.aad c) (List.length (Cl.atoms c)) (Cl.acap c), .slice (Cl.fad c) (List.length (Cl.facts c)) (Cl.fcap c)] 28 (0, 0)) :: ((nb, .map #[] 0) :: (Ha ++ (Hu ++ (Ho ++ (Hi ++ (Hr ++ Hm)))))))) (by kernel_rfl) ?_
    refine any_sq 1 [0, 1, 2, 3, 4] (by kernel_rfl) (fun _ a b => ⟨Vw.sat.sub (a.perm (pf_takeB pf_here (pf_takeB pf_here (pf_takeB pf_here (pf_takeO (pf_cons (pf_cons pf_hereO)) (pf_takeO (pf_cons (pf_cons pf_hereO)) (pf_takeO (pf_cons (pf_cons pf_hereO)) (pf_takeO (pf_cons (pf_cons pf_hereO)) (pf_takeO (pf_cons (pf_cons pf_hereO)) (pf_cons pf_lastB)))))))))), b⟩) ?_
    refine sq_val rfl (yld_loadO Tryz.isAgg85 rfl (fun v _ h => by exact h.2.2.2.1) rfl) rfl ?_
    refine sq_val rfl (yld_nilck rfl) rfl ?_
    refine sq_val rfl (yld_field Tryz.runUnderlying94 rfl rfl rfl Tryz.sizeOf88) rfl ?_
    refine sq_val rfl (yld_loadO Tryz.isAgg88 rfl (fun v _ h => by exact h.2.1) rfl) rfl ?_
    refine sq_val rfl (yld_loadS 0 Tryz.isAgg41 Tryz.sizeOf41 rfl rfl rfl) rfl ?_
    refine sq_nil ?_
    refine any_one 5 rfl (by kernel_rfl) ?_
    refine ops_join (k := f) 4 keyFc (.inr rfl) Tryz.runUnderlying88 rfl rfl rfl rfl hF fun ej2 cj2 hj2 => ?_
    refine ops_nil (fin_inv rfl (any_next (fun _ a b => ⟨Vw.sat.sub (a.perm (pf_takeB pf_here (pf_takeB pf_here (pf_takeB pf_here (pf_takeO (pf_cons (pf_cons pf_hereO)) (pf_takeO (pf_cons (pf_cons pf_hereO)) (pf_takeO (pf_cons (pf_cons pf_hereO)) (pf_takeO (pf_cons (pf_cons pf_hereO)) (pf_takeO (pf_cons (pf_cons pf_hereO)) (pf_cons pf_lastB)))))))))), b⟩) ?_))
    refine any_done (by kernel_rfl) ?_
    refine fin_next rfl ?_
    have hK1 := (take_new hnd hf) ▸ hj1
    have hF1 := (take_new hnd hf) ▸ hj2
    refine run_region (ops_val (yld_loadO Tryz.isAgg85 rfl (fun v _ h => by exact h.2.2.2.1) rfl) rfl ?_)
    refine ops_val (yld_loadS 0 Tryz.isAgg41 Tryz.sizeOf41 rfl rfl rfl) rfl ?_
    refine ops_call (index_c (EngB.mk g pb ab ub ob ib rb sb lad lcap (loopsOf (uniq [] p))) (EN (List.take (i + 1) (Cl.facts c)) (EngB.mk g pb ab ub ob ib rb sb lad lcap (loopsOf (uniq [] p))) b2 b3 kb fb nb) x f [] (List.take (i + 1) (Cl.facts c)) [(nb, .map #[] 0), (kb, .map ej1 cj1), (fb, .map ej2 cj2)] ⟨ej1, cj1, ej2, cj2, (List.take (i + 1) (Cl.facts c)), #[], 0, rfl, SetE.nil, hK1, hF1, fun _ => Iff.rfl, Born.nil 0⟩ Ha Hu Ho Hi Hr Hm hI hxl hyl) rfl (pf_takeO (pf_cons (pf_cons (pf_cons (pf_cons (pf_cons pf_hereO))))) (pf_takeO (pf_cons (pf_cons (pf_cons (pf_cons (pf_cons pf_hereO))))) (pf_takeO (pf_cons (pf_cons (pf_cons (pf_cons (pf_cons pf_hereO))))) (pf_takeO (pf_cons (pf_cons (pf_cons (pf_cons (pf_cons pf_hereO))))) (pf_takeO (pf_cons (pf_cons (pf_cons (pf_cons (pf_cons pf_hereO))))) (pf_takeO (pf_cons (pf_cons (pf_cons (pf_cons pf_lastB)))) (pf_takeB (pf_cons (pf_cons pf_here)) (pf_takeB (pf_cons (pf_cons pf_here)) (pf_cons (pf_cons pf_here)))))))))) (fun v _ h => by exact ⟨h.2.1, trivial⟩) rfl fun ⟨⟨Ha1, Hu1, Ho1, Hi1, Hr1, Hm1⟩, hI1⟩ => ?_
    dsimp only
    refine ok_perm pf_sixT ?_
    refine ops_nil (fin_next rfl (ok_perm (pf_fB (pf_app (pf_app (pf_app (pf_app (pf_app (pf_app pf_here)))))) (pf_fB (pf_app (pf_app (pf_app (pf_app (pf_app (pf_app pf_here)))))) (pf_fB (pf_app (pf_app (pf_app (pf_app (pf_app (pf_app pf_here)))))) (pf_fB (pf_app (pf_app (pf_app (pf_app (pf_app (pf_app pf_here)))))) (pf_f1 (pf_app (pf_app (pf_app (pf_app (pf_app pf_last)))))))))) ?_))
    refine run_region (ops_val (yld_arith rfl rfl rfl (wrap64 (by omega) (by omega))) rfl ?_)
    refine ops_val (yld_move rfl) rfl (ops_nil (fin_inv rfl ?_))
    exact ok_again ⟨(i + 1, (Ix.add x (decide (f ∈ (List.take (i + 1) (Cl.facts c)))) f), ej1, cj1, ej2, cj2, Ha1, Hu1, Ho1, Hi1, Hr1, Hm1), hlf, hK1, hF1, hI1, (ixSz_add hz _ f), ix_next hxo hf⟩ (by dsimp only; omega) ⟨rfl, rfl, rfl, rfl, rfl, rfl, rfl, trivial⟩ (pf_takeB (pf_cons (pf_cons (pf_cons (pf_cons pf_here)))) (pf_takeB pf_here (pf_takeB pf_here (pf_takeB pf_here (pf_takeO (pf_cons pf_hereO) (pf_takeO (pf_cons pf_hereO) (pf_takeO (pf_cons pf_hereO) (pf_takeO (pf_cons pf_hereO) (pf_takeO (pf_cons pf_hereO) pf_lastB))))))))) (fun v _ h => by exact ⟨h.1, h.2.1, h.2.2.1, h.2.2.2.1, h.2.2.2.2.1, h.2.2.2.2.2.1, h.2.2.2.2.2.2.1, h.2.2.2.2.2.2.2.1, h.2.2.2.2.2.2.2.2.1, trivial⟩)
  ·
   replace hr2 := ne_of_bne hr2
   refine run_cond_t rfl (run_seq (run_region (ops_val (yld_move rfl) rfl (ops_val (yld_assign rfl) rfl (ops_val (yld_assign rfl) rfl (ops_nil (fin_next rfl ?_)))))))
   refine run_ret ?_
   exact ret2 Tryz.results22 ⟨(none, 0, [], (checkC (Cl.atoms c) (Cl.facts c))), ⟨Nat.le_refl _, by simp, fun _ => rfl⟩, nextR_c (by assumption) (by assumption)⟩ rfl rfl rfl pf_nil (fun v _ h => by exact ⟨.inl rfl, trivial⟩)
 ·
  replace hr1 := ne_of_bne hr1
  refine run_cond_t rfl (run_seq (run_region (ops_val (yld_move rfl) rfl (ops_val (yld_assign rfl) rfl (ops_val (yld_assign rfl) rfl (ops_nil (fin_next rfl ?_)))))))
  refine run_ret ?_
  exact ret2 Tryz.results22 ⟨(none, 0, [], (checkP p)), ⟨Nat.le_refl _, by simp, fun _ => rfl⟩, nextR_p (by assumption)⟩ rfl rfl rfl pf_nil (fun v _ h => by exact ⟨.inl rfl, trivial⟩)
end Go.Proofs.YtpdbbglpbngeiaaGreatDoor
namespace Go.Proofs.YtpdbbglpbngeiaaGreatDoor
open Go Go.Sx Go.Proofs
set_option linter.unusedVariables false
attribute [local irreducible] Code.wp wpList wpAnyH
open Go.Vs
theorem dE {p : Prop} {i : Decidable p} : (@decide p i = true) ↔ p := ⟨fun h => of_decide_eq_true h, fun h => decide_eq_true h⟩
theorem at_star (p : List Pc) : [42] ∈ atS p := (atS_mem p _).2 (.inr (.inl rfl))
theorem at_bang (p : List Pc) : [33] ∈ atS p := (atS_mem p _).2 (.inr (.inr rfl))
theorem at_of {p : List Pc} {x : Pc} (hx : x ∈ p) {s : Str} (hs : s = x.a ∨ s = x.b ∨ s = x.c) (hn : s ≠ []) : s ∈ atS p := by
  refine (atS_mem p s).2 (.inl ((atomsL_mem p s).2 ?_))
  refine List.mem_flatMap.2 ⟨x, hx, List.mem_filter.2 ⟨?_, by simpa using hn⟩⟩
  rcases hs with rfl | rfl | rfl <;> simp
theorem atom_ne {s : Str} (h : atomS s = true) : s ≠ [] := fun e => by subst e; revert h; decide
/-- the last atom of a piece is one -/
theorem valid_c {p : Pc} (h : p.valid = true) (hk : p.kind = 1 ∨ p.kind = 2 ∨ p.kind = 3 ∨ p.kind = 4 ∨ p.kind = 9) : p.c ≠ [] := by
  unfold Pc.valid at h
  split at h
  · simp at h
  split at h
  · simp at h
  split at h
  · simp at h
  simp only [Bool.and_eq_true] at h
  obtain ⟨⟨⟨⟨_, hc⟩, _⟩, _⟩, _⟩ := h
  have key : ∀ {b : Bool}, fldS b p.c atomS = true → b = true → p.c ≠ [] := fun h1 h2 => by
    subst h2; simp [fldS] at h1; exact atom_ne h1
  rcases hk with q | q | q | q | q <;> rw [q] at hc <;> exact key hc (by decide)
theorem fo1 {A : List Str} {a b : Str} : factOk A (fsub a b) = true ↔ a ∈ A ∧ b ∈ A := by
  unfold factOk fsub isSubB
  dsimp only
  rw [if_pos rfl, Bool.and_eq_true, Bool.and_eq_true, dE, dE, dE]
  simp [fsub]
theorem fo2 {A : List Str} {a r b : Str} : factOk A (flink a r b) = true ↔ a ∈ A ∧ b ∈ A ∧ r ≠ [] := by
  unfold factOk flink
  dsimp only
  rw [if_neg (by decide), if_pos rfl, Bool.and_eq_true, Bool.and_eq_true, Bool.and_eq_true, dE, dE, dE, dE]
  simp [flink]
theorem fo3 {A : List Str} {a r : Str} {lo hi : Int} : factOk A (fspan a r lo hi) = true ↔ a ∈ A ∧ r ≠ [] ∧ -1099511627776 ≤ lo ∧ lo ≤ hi ∧ hi ≤ 1099511627776 := by
  unfold factOk fspan
  dsimp only
  rw [if_neg (by decide), if_neg (by decide), if_pos rfl, Bool.and_eq_true, Bool.and_eq_true, Bool.and_eq_true, Bool.and_eq_true, Bool.and_eq_true, dE, dE, dE, dE, dE, dE]
  simp [fspan]
/-- what follows speaks of the atoms -/
theorem one_ok {p : List Pc} {S : Fc → Prop} (hp : ∀ x ∈ p, x.valid = true) (hS : ∀ y, S y → factOk (atS p) y = true) {y : Fc} (h : One' p (atS p) S y) : factOk (atS p) y = true := by
  have hc : ∀ {x : Pc}, x ∈ p → (x.kind = 1 ∨ x.kind = 2 ∨ x.kind = 3 ∨ x.kind = 4 ∨ x.kind = 9) → x.c ∈ atS p := fun hx hk => at_of hx (.inr (.inr rfl)) (valid_c (hp _ hx) hk)
  have hv : ∀ {x : Pc}, x ∈ p → x.vok := fun hx => valid_vok (hp _ hx)
  cases h with
  | r1 h => exact fo1.2 ⟨h, h⟩
  | r2 h => exact fo1.2 ⟨h, at_star p⟩
  | r10 hx hk h => exact fo2.2 ⟨h, h, (hv hx).rok.1 (by simp [hk])⟩
  | r3 hx hk h => exact fo1.2 ⟨(fo1.1 (hS _ h)).1, hc hx (by simp [hk])⟩
  | r4 hx hk h h' => exact fo1.2 ⟨(fo1.1 (hS _ h)).1, hc hx (by simp [hk])⟩
  | r5 hx hk h => exact fo2.2 ⟨(fo1.1 (hS _ h)).1, hc hx (by simp [hk]), (hv hx).rok.1 (by simp [hk])⟩
  | r6 hx hk h => exact fo2.2 ⟨(fo2.1 (hS _ h)).1, (fo2.1 (hS _ h)).2.1, (hv hx).rok.2.2 hk⟩
  | r7 hx hk h h' => exact fo2.2 ⟨(fo2.1 (hS _ h)).1, (fo2.1 (hS _ h')).2.1, ((hv hx).rok.2.1 hk).2⟩
  | r8 hx hk h h' => exact fo1.2 ⟨(fo2.1 (hS _ h)).1, hc hx (by simp [hk])⟩
  | r9 h h' => exact fo1.2 ⟨(fo2.1 (hS _ h)).1, at_bang p⟩
  | r11 hx hk h => exact fo3.2 ⟨(fo1.1 (hS _ h)).1, (hv hx).rok.1 (by simp [hk]), (hv hx).num (.inl hk)⟩
  | r12 h h' hm hl =>
    have h1 := fo3.1 (hS _ h)
    have h2 := fo3.1 (hS _ h')
    exact fo3.2 ⟨h1.1, h1.2.1, by omega, hl, by omega⟩
  | r13 h h' hm hl => exact fo1.2 ⟨(fo3.1 (hS _ h)).1, at_bang p⟩
  | r14 hx hk h h1 h2 => exact fo1.2 ⟨(fo3.1 (hS _ h)).1, hc hx (by simp [hk])⟩
theorem der_ok {p : List Pc} (hp : ∀ x ∈ p, x.valid = true) {y : Fc} (h : Der p (atS p) y) : factOk (atS p) y = true := h _ fun _ hy => one_ok hp (fun _ h => h) hy
theorem check_valid {p : List Pc} (h : checkP p = 0) : ∀ x ∈ p, x.valid = true := fun x hx => List.all_eq_true.1 (check_ok h).2 x hx
/-- the closure of pieces is one -/
theorem allIs_chk {p : List Pc} {m : Nat} {L : List Fc} (hp : checkP p = 0) (h : AllIs p (atS p) m (some L)) (hm : m ≤ 65536) : checkC (atS p) L = 0 :=
  (chk_yes ⟨atS_lt p, h.1, at_star p, at_bang p, fun f hf => der_ok (check_valid hp) ((h.2.1 f).1 hf)⟩ (by have := h.2.2; omega)).symm
theorem allIs_closed {p : List Pc} {A : List Str} {m : Nat} {L : List Fc} (h : AllIs p A m (some L)) {y : Fc} (hy : One' p A (· ∈ L) y) : y ∈ L :=
  (h.2.1 y).2 (Der.step (hy.mono (fun x hx => ⟨x, hx, x.frm, rfl⟩) (fun _ h => h) (fun z hz => (h.2.1 z).1 hz) (fun _ _ h => h)))
/-- All, its answer in the good case -/
theorem AllR.good {p : List Pc} {bu : Int} {c : Cl} (h : AllR p bu c 0) : checkP p = 0 ∧ 0 ≤ bu ∧ bu ≤ 1073741824 ∧ c.ok ∧ c.atoms = atS p ∧ AllIs p (atS p) (min bu 65536).toNat (some c.facts) := by
  unfold AllR at h
  split at h
  · rename_i h1; exact absurd h.2.symm h1
  · rename_i h1
    split at h
    · exact absurd h.2 (by decide)
    · rename_i h2
      rcases h with h | h
      · exact ⟨by simpa using h1, by omega, by omega, h.2⟩
      · have := h.2.1; split at this <;> exact absurd this (by decide)
theorem AllR.bad {p : List Pc} {bu : Int} {c : Cl} {e : Int} (h : AllR p bu c e) (he : e ≠ 0) : c = Cl.no := by
  unfold AllR at h
  split at h
  · exact h.1
  · split at h
    · exact h.1
    · rcases h with h | h
      · exact absurd h.1 he
      · exact h.1
theorem AllR.ok {p : List Pc} {bu : Int} {c : Cl} {e : Int} (h : AllR p bu c e) : c.ok := by
  by_cases he : e = 0
  · subst he; exact h.good.2.2.2.1
  · rw [h.bad he]; exact Cl.no_ok
/-- how long they are -/
theorem AllR.len {p : List Pc} {bu : Int} {c : Cl} {e : Int} (h : AllR p bu c e) : c.atoms.length ≤ 3 * p.length + 2 ∧ c.facts.length ≤ 65536 := by
  by_cases he : e = 0
  · subst he
    obtain ⟨_, _, _, _, h1, h2⟩ := h.good
    refine ⟨by rw [h1]; exact atS_len p, ?_⟩
    have := h2.2.2
    omega
  · rw [h.bad he]; simp [Cl.no]
theorem allR_of {p : List Pc} {bu : Int} {c : Cl} {e : Int} {r : Option (List Fc)} (h : AllR p bu c e) (hc : checkP p = 0) (hb : 0 ≤ bu) (hb2 : bu ≤ 1073741824) (hr : AllIs p (atS p) (min bu 65536).toNat r) : (∀ L, r = some L → e = 0 ∧ c.facts = L ∧ c.atoms = atS p) ∧ (r = none → c = Cl.no ∧ e = if bu < 65536 then 3 else 2) := by
  unfold AllR at h
  rw [if_neg (by simp [hc]), if_neg (by omega)] at h
  rcases h with ⟨h1, h2, h3, h4⟩ | ⟨h1, h2, h3⟩
  · have e := AllIs.uniq h4 hr
    subst e
    exact ⟨fun L hL => ⟨h1, Option.some.inj hL, h3⟩, fun h => (by cases h)⟩
  · have e := AllIs.uniq h3 hr
    subst e
    exact ⟨fun L hL => (by cases hL), fun _ => ⟨h1, h2⟩⟩
theorem NextR.good {p : List Pc} {at' : List Str} {fs l : List Fc} {e : Int} (h : NextR p at' fs l e) (hp : checkP p = 0) (hc : checkC at' fs = 0) : e = 0 ∧ Srt l ∧ ∀ y, y ∈ l ↔ One' p (atS p) (· ∈ fs) y ∧ y ∉ fs := by
  unfold NextR at h
  rw [if_neg (by simp [hp]), if_neg (by simp [hc])] at h
  exact h
theorem next_none {p : List Pc} {m : Nat} {L l : List Fc} {e : Int} (hp : checkP p = 0) (hm : m ≤ 65536) (hA : AllIs p (atS p) m (some L)) (h : NextR p (atS p) L l e) : l = [] ∧ e = 0 := by
  obtain ⟨h1, _, h3⟩ := h.good hp (allIs_chk hp hA hm)
  refine ⟨List.eq_nil_iff_forall_not_mem.2 fun y hy => ?_, h1⟩
  have := (h3 y).1 hy
  exact this.2 (allIs_closed hA this.1)
end Go.Proofs.YtpdbbglpbngeiaaGreatDoor
namespace Go.Proofs.YtpdbbglpbngeiaaGreatDoor
open Go Go.Sx Go.Proofs
set_option linter.unusedVariables false
attribute [local irreducible] Code.wp wpList wpAnyH
open Go.Vs
theorem yld_addW {N : Nat} {fr : Fr} {H : Hp} {Γ : List Fct} {P : Program} {ty t t' : TypeId} {x y : Operand} {m n : Int} (hx : Fr.ev fr x = some (.int .i64 m)) (hy : Fr.ev fr y = some (.int .i64 n)) : Yld P N fr H Γ (.binOp .add t x y t') ty (.int .i64 (IntKind.wrap .i64 (m + n))) :=
  fun a v h1 _ _ _ _ _ => by simp [execOp, h1.ev hx, h1.ev hy, eqGuard, binOp, Op.intArith]
def pcLen (x : Pc) : Int := (x.a.length : Int) + (x.b.length : Int) + (x.c.length : Int) + (x.r.length : Int) + (x.s.length : Int) + (x.t.length : Int)
def plen : List Pc → Int
  | [] => 0
  | x :: l => pcLen x + plen l
theorem plen_snoc : ∀ (l : List Pc) (x : Pc), plen (l ++ [x]) = plen l + pcLen x
  | [], x => by simp [plen]
  | y :: l, x => by simp only [List.cons_append, plen, plen_snoc l x]; omega
theorem plen_step {p : List Pc} {i : Nat} {x : Pc} (h : p[i]? = some x) : plen (p.take (i + 1)) = plen (p.take i) + pcLen x := by
  rw [List.take_add_one, h, Option.toList_some, plen_snoc]
theorem plen_bnd : ∀ {l : List Pc}, (∀ x ∈ l, x.big) → 0 ≤ plen l ∧ plen l ≤ l.length * 844424930107392
  | [], _ => by simp [plen]
  | x :: l, h => by
    have h1 := plen_bnd (l := l) fun y hy => h y (by simp [hy])
    obtain ⟨a, b, c, d, e, f⟩ := h x (by simp)
    simp only [plen, pcLen, List.length_cons]
    omega
theorem plen_sm : ∀ {l : List Pc} {n : Int}, plen l ≤ n → n ≤ 17592186044414 → ∀ x ∈ l, x.sm
  | [], _, _, _, x, hx => by simp at hx
  | y :: l, n, h, hn, x, hx => by
    have h0 : 0 ≤ plen l := plen_pos l
    simp only [plen, pcLen] at h
    rcases List.mem_cons.1 hx with rfl | hx
    · exact ⟨by omega, by omega, by omega, by omega, by omega, by omega⟩
    · exact plen_sm (l := l) (n := n) (by omega) hn x hx
where plen_pos : ∀ l : List Pc, 0 ≤ plen l
  | [] => by simp [plen]
  | x :: l => by have := plen_pos l; simp only [plen, pcLen]; omega
theorem few10_c (p : List Pc) (pad : Option Addr) (pcap : Nat) (hp : p.length ≤ 1099511627744) (hbig : ∀ x ∈ p, x.big) : Tri Tryz.prog 16 #[.slice pad (List.length p) pcap] [] [rowF pad (List.flatMap Pc.cells p)] (fun b : {b : Bool // b = true → p.length ≤ 40 ∧ ∀ x ∈ p, x.sm} => .bool b.1) (fun _ => []) (fun _ => []) := by
 refine tri_of_body Tryz.func16 rfl rfl Tryz.ntmps16 rfl fun v0 => ?_
 refine run_seq (run_region (ops_val (yld_assign rfl) rfl (ops_nil (fin_next rfl (run_seq (run_region (ops_val (yld_assign rfl) rfl ?_)))))))
 refine ops_nil (fin_next rfl (run_seq (run_seq (run_region (ops_val (yld_move rfl) rfl (ops_val (yld_lenS Tryz.runUnderlying22 rfl) rfl ?_))))))
 refine ops_val (yld_move rfl) rfl (ops_nil (fin_next rfl (run_block (ok_fr [(0, .slice pad (List.length p) pcap), (3, .int .i64 0), (6, .slice pad (List.length p) pcap), (7, .int .i64 (List.length p : Int)), (8, .int .i64 ((0 : Nat) : Int))] ⟨rfl, rfl, rfl, rfl, rfl, trivial⟩ ?_))))
 refine run_loop (ι := {y : Nat × Int // y.1 ≤ List.length p ∧ (List.length p ≤ 40 → y.2 = plen (List.take y.1 p))}) (fun y => [(0, .slice pad (List.length p) pcap), (3, .int .i64 y.1.2), (6, .slice pad (List.length p) pcap), (7, .int .i64 (List.length p : Int)), (8, .int .i64 (y.1.1 : Int))]) (fun y => ([])) (fun y => [rowF pad (List.flatMap Pc.cells p)]) (fun y => List.length p - y.1.1) ⟨((0 : Nat), 0), by simp, fun _ => rfl⟩ ?_
 rintro ⟨⟨i, w⟩, hi, hw⟩
 dsimp only at hi hw ⊢
 refine ok_fr [(0, .slice pad (List.length p) pcap), (3, .int .i64 w), (6, .slice pad (List.length p) pcap), (7, .int .i64 (List.length p : Int)), (8, .int .i64 (i : Int))] ⟨rfl, rfl, rfl, rfl, rfl, trivial⟩ ?_
 refine run_seq (run_region (ops_valB (yld_lss rfl rfl) rfl fun r1 hr1 => ?_))
 refine ops_nil (fin_next rfl (run_seq ?_))
 cases r1
 ·
  replace hr1 := of_decide_eq_false hr1
  refine run_cond_f rfl (run_exit rfl (fin_next rfl (run_seq (run_region (ops_val (yld_move rfl) rfl (ops_val (yld_lenS Tryz.runUnderlying22 rfl) rfl ?_))))))
  refine ops_valB (yld_leq rfl rfl) rfl fun r2 hr2 => ?_
  refine ops_val (yld_move rfl) rfl ?_
  cases r2
  ·
   replace hr2 := of_decide_eq_false hr2
   refine ops_no rfl rfl rfl rfl (ops_no rfl rfl rfl rfl (ops_val (yld_pick_f rfl rfl) rfl ?_))
   refine ops_val (yld_assign rfl) rfl (ops_nil (fin_next rfl (run_ret ?_)))
   exact ret1 Tryz.results16 ⟨false, fun h => by cases h⟩ rfl pf_nil (fun _ _ _ => trivial)
  ·
   replace hr2 := of_decide_eq_true hr2
   refine ops_yes rfl rfl (ops_val (yld_move rfl) rfl (ops_yes rfl rfl (ops_valB (yld_leq rfl rfl) rfl fun r3 hr3 => ?_)))
   refine ops_val (yld_pick_t rfl rfl) rfl ?_
   refine ops_val (yld_assign rfl) rfl (ops_nil (fin_next rfl (run_ret ?_)))
   exact ret1 Tryz.results16 ⟨r3, fun h => ⟨by omega, by rw [h] at hr3; have hle := of_decide_eq_true hr3; rw [hw (by omega), List.take_of_length_le (by omega)] at hle; exact plen_sm hle (by decide)⟩⟩ rfl pf_nil (fun _ _ _ => trivial)
 ·
  replace hr1 := of_decide_eq_true hr1
  have hlx1 : i < List.length p := by omega
  obtain ⟨x1, hx1⟩ : ∃ e0, p[i]? = some e0 := ⟨_, List.getElem?_eq_getElem hlx1⟩
  have hmx1 : x1 ∈ p := List.mem_of_getElem? hx1
  obtain ⟨q1, q2, q3, q4, q5, q6⟩ := hbig x1 hmx1
  refine run_cond_t rfl (run_skip (fin_next rfl (run_seq (run_block (run_seq (run_region (ops_val (yld_indexR Tryz.runUnderlying22 Tryz.sizeOf47 rfl rfl (fun v _ h => row_adr (n := 10) Pc.cells_len (by decide) (by exact h.1) hx1) (by omega) (by first | omega | (simp; done))) rfl ?_)))))))
  refine ops_val (yld_loadRS (ad := pad) (us := Pc.cells x1) Tryz.isAgg47 Tryz.sizeOf47 rfl (fun v _ h => by exact h.1) (Pc.cells_len _) (row_cells Pc.cells_len hx1)) rfl ?_
  refine ops_alloc Tryz.zeroValue47 rfl fun b1 => ?_
  refine ops_store 0 Tryz.sizeOf47 rfl rfl rfl rfl rfl rfl ?_
  refine ops_nil (fin_next rfl (run_region (ops_val (yld_move rfl) rfl (ops_val (yld_field Tryz.runUnderlying47 rfl rfl rfl Tryz.sizeOf9) rfl ?_))))
  refine ops_val (yld_load 0 Tryz.isAgg9 rfl rfl rfl) rfl ?_
  refine ops_val (yld_lenT Tryz.runUnderlying9 rfl) rfl ?_
  refine ops_val (yld_field Tryz.runUnderlying47 rfl rfl rfl Tryz.sizeOf9) rfl ?_
  refine ops_val (yld_load 0 Tryz.isAgg9 rfl rfl rfl) rfl ?_
  refine ops_val (yld_lenT Tryz.runUnderlying9 rfl) rfl ?_
  refine ops_val (yld_arith rfl rfl rfl (wrap64 (by omega) (by omega))) rfl ?_
  refine ops_val (yld_field Tryz.runUnderlying47 rfl rfl rfl Tryz.sizeOf9) rfl ?_
  refine ops_val (yld_load 0 Tryz.isAgg9 rfl rfl rfl) rfl ?_
  refine ops_val (yld_lenT Tryz.runUnderlying9 rfl) rfl ?_
  refine ops_val (yld_arith rfl rfl rfl (wrap64 (by omega) (by omega))) rfl ?_
  refine ops_val (yld_field Tryz.runUnderlying47 rfl rfl rfl Tryz.sizeOf9) rfl ?_
  refine ops_val (yld_load 0 Tryz.isAgg9 rfl rfl rfl) rfl ?_
  refine ops_val (yld_lenT Tryz.runUnderlying9 rfl) rfl ?_
  refine ops_val (yld_arith rfl rfl rfl (wrap64 (by omega) (by omega))) rfl ?_
  refine ops_val (yld_field Tryz.runUnderlying47 rfl rfl rfl Tryz.sizeOf9) rfl ?_
  refine ops_val (yld_load 0 Tryz.isAgg9 rfl rfl rfl) rfl ?_
  refine ops_val (yld_lenT Tryz.runUnderlying9 rfl) rfl ?_
  refine ops_val (yld_arith rfl rfl rfl (wrap64 (by omega) (by omega))) rfl ?_
  refine ops_val (yld_field Tryz.runUnderlying47 rfl rfl rfl Tryz.sizeOf9) rfl ?_
  refine ops_val (yld_load 0 Tryz.isAgg9 rfl rfl rfl) rfl ?_
  refine ops_val (yld_lenT Tryz.runUnderlying9 rfl) rfl ?_
  refine ops_val (yld_arith rfl rfl rfl (wrap64 (by omega) (by omega))) rfl ?_
  refine ops_val (yld_addW rfl rfl) rfl ?_
  refine ops_val (yld_assign rfl) rfl (ops_nil (fin_next rfl (run_region (ops_val (yld_arith rfl rfl rfl (wrap64 (by omega) (by omega))) rfl ?_))))
  refine ops_val (yld_move rfl) rfl (ops_nil (fin_inv rfl ?_))
  exact ok_again ⟨(i + 1, (IntKind.wrap .i64 (w + (((((((Pc.a x1).length : Int) + ((Pc.b x1).length : Int)) + ((Pc.c x1).length : Int)) + ((Pc.r x1).length : Int)) + ((Pc.s x1).length : Int)) + ((Pc.t x1).length : Int))))), hlx1, fun h40 => by rw [plen_step hx1, hw h40]; have hq := plen_bnd (l := List.take i p) (fun x hx => hbig x (List.mem_of_mem_take hx)); rw [List.length_take] at hq; unfold pcLen; exact wrap64 (by omega) (by omega)⟩ (by dsimp only; omega) ⟨rfl, rfl, rfl, rfl, rfl, trivial⟩ pf_nil (fun v _ h => by exact ⟨h.1, trivial⟩)
theorem atS_nil : atS [] = [[33], [42]] := sorted_ext str_irr List.lt_trans (atS_lt []) (by decide) fun x => by
  rw [atS_mem, atomsL_mem]
  simp [atomsR, or_comm]
def P3 : List Pc := [⟨3, [65], [], [66], [114], [], [], 0, 0, 0⟩, ⟨4, [42], [], [67], [114], [], [], 0, 0, 0⟩]
def A3 : List Str := [[33], [42], [65], [66], [67]]
theorem atS_P3 : atS P3 = A3 := sorted_ext str_irr List.lt_trans (atS_lt P3) (by decide) fun x => by
  rw [atS_mem, atomsL_mem]
  simp only [atomsR, atoms1, P3, A3, List.flatMap_cons, List.flatMap_nil, List.mem_append, List.mem_cons, List.not_mem_nil, or_false]
  simp
  constructor
  · intro h
    simp only [or_assoc] at h
    rcases h with rfl | rfl | rfl | rfl | rfl | rfl <;> simp
  · rintro (rfl | rfl | rfl | rfl | rfl) <;> simp
theorem P3_chk : checkP P3 = 0 := by decide +kernel
theorem nil_chk : checkP [] = 0 := by decide +kernel
def F0 : List Fc := clos [] [[33], [42]] 3
def F3 : List Fc := clos P3 A3 4
theorem F0_is (m : Nat) (hm : 3 ≤ m) : AllIs [] [[33], [42]] m (some F0) := clos_all (fun x hx => by simp at hx) 3 m (by decide +kernel) (Nat.le_trans (by decide +kernel) hm)
theorem F0_no : AllIs [] [[33], [42]] 2 none := clos_none (fun x hx => by simp at hx) 3 2 (by decide +kernel)
theorem F3_is : AllIs P3 A3 65536 (some F3) := clos_all (check_vok P3_chk) 4 65536 (by decide +kernel) (by decide +kernel)
theorem sane1 {c : Cl} {e : Int} (h : AllR [] 3 c e) : e = 0 ∧ c.atoms = [[33], [42]] ∧ c.facts = F0 := by
  have := (allR_of h nil_chk (by decide) (by decide) (r := some F0) (by rw [atS_nil]; exact F0_is 3 (by decide))).1 _ rfl
  rw [atS_nil] at this
  exact ⟨this.1, this.2.2, this.2.1⟩
theorem sane2 {c : Cl} {e : Int} (h : AllR [] 2 c e) : e = 3 ∧ c = Cl.no := by
  have := (allR_of h nil_chk (by decide) (by decide) (r := none) (by rw [atS_nil]; exact F0_no)).2 rfl
  exact ⟨this.2, this.1⟩
theorem sane3 {c : Cl} {e : Int} (h : AllR P3 1073741824 c e) : e = 0 ∧ c.atoms = atS P3 ∧ c.facts = F3 := by
  have := (allR_of h P3_chk (by decide) (by decide) (r := some F3) (by rw [atS_P3]; exact F3_is)).1 _ rfl
  exact ⟨this.1, this.2.2, this.2.1⟩
theorem sane4 {at' : List Str} {fs l : List Fc} {e : Int} (ha : at' = atS P3) (hf : fs = F3) (h : NextR P3 at' fs l e) : l = [] ∧ e = 0 := by
  subst ha; subst hf
  exact next_none P3_chk (Nat.le_refl _) (by rw [atS_P3]; exact F3_is) h
theorem F0_len : F0.length = 3 := by decide +kernel
theorem F3_a : derB F3 (flink [65] [114] [66]) = true := by decide +kernel
theorem F3_b : derB F3 (fsub [65] [67]) = true := by decide +kernel
theorem F3_c : derB F3 (fsub [66] [67]) = false := by decide +kernel
theorem F3_len : F3.length ≤ 1000 := by decide +kernel
end Go.Proofs.YtpdbbglpbngeiaaGreatDoor
namespace Go.Proofs.YtpdbbglpbngeiaaGreatDoor
open Go Go.Sx Go.Proofs
set_option linter.unusedVariables false
attribute [local irreducible] Code.wp wpList wpAnyH
open Go.Vs
set_option maxHeartbeats 1000000 in
theorem sane10_c : Tri Tryz.prog 15 #[] [] [tabN] (fun _ : Unit => .bool true) (fun _ => []) (fun _ => []) := by
 refine tri_of_body Tryz.func15 rfl rfl Tryz.ntmps15 rfl fun v0 => ?_
 refine run_seq (run_region (ops_val (yld_assign rfl) rfl (ops_nil (fin_next rfl (run_seq (run_region (ops_call (all_c ([] : List Pc) none 0 3 (Pc.sm_all (by decide +kernel)) (by decide)) rfl pf_nil (fun v _ h => by exact ⟨.inl rfl, h.1, trivial⟩) rfl fun ⟨⟨c1, e1⟩, hA1⟩ => ?_)))))))
 dsimp only
 dsimp only at hA1
 obtain ⟨rfl, ha1, hf1⟩ := sane1 hA1
 refine ops_val (yld_move rfl) rfl (ops_val (yld_extract rfl rfl) rfl ?_)
 refine ops_val (yld_extract rfl rfl) rfl ?_
 refine ops_alloc Tryz.zeroValue28 rfl fun b1 => ?_
 refine ops_store 0 Tryz.sizeOf28 rfl rfl rfl rfl rfl rfl ?_
 refine ops_val (yld_assign rfl) rfl (ops_nil (fin_next rfl (run_seq (run_region (ops_call (all_c ([] : List Pc) none 0 2 (Pc.sm_all (by decide +kernel)) (by decide)) rfl pf_nil (fun v _ h => by exact ⟨.inl rfl, h.2.2.1, trivial⟩) rfl fun ⟨⟨c2, e2⟩, hA2⟩ => ?_)))))
 dsimp only
 dsimp only at hA2
 obtain ⟨rfl, hc2⟩ := sane2 hA2
 refine ops_val (yld_move rfl) rfl (ops_val (yld_extract rfl rfl) rfl ?_)
 refine ops_val (yld_extract rfl rfl) rfl ?_
 refine ops_alloc Tryz.zeroValue28 rfl fun b2 => ?_
 refine ops_store 0 Tryz.sizeOf28 rfl rfl rfl rfl rfl rfl ?_
 refine ops_val (yld_assign rfl) rfl (ops_nil (fin_next rfl (run_seq (run_region (ops_val (yld_struct strt47 rfl rfl) rfl ?_)))))
 refine ops_val (yld_struct strt47 rfl rfl) rfl ?_
 refine ops_slit Tryz.runUnderlying22 Tryz.sizeOf47 Tryz.zeroValue47 rfl rfl rfl rfl rfl rfl fun b3 => ?_
 refine ok_giveR (List.flatMap Pc.cells [(Pc.mk 3 [65] [] [66] [114] [] [] 0 0 0), (Pc.mk 4 [42] [] [67] [114] [] [] 0 0 0)]) pf_here rfl ?_
 refine ops_val (yld_assign rfl) rfl (ops_nil (fin_next rfl (run_seq (run_region (ops_val (yld_move rfl) rfl (ops_call (all_c [(Pc.mk 3 [65] [] [66] [114] [] [] 0 0 0), (Pc.mk 4 [42] [] [67] [114] [] [] 0 0 0)] (some ⟨b3, 0, none⟩) 2 1073741824 (Pc.sm_all (by decide +kernel)) (by decide)) rfl pf_nil (fun v _ h => by exact ⟨h.1, h.2.2.2.2.2.1, trivial⟩) rfl fun ⟨⟨c3, e3⟩, hA3⟩ => ?_))))))
 dsimp only
 dsimp only at hA3
 obtain ⟨rfl, ha3, hf3⟩ := sane3 hA3
 refine ops_val (yld_move rfl) rfl (ops_val (yld_extract rfl rfl) rfl ?_)
 refine ops_val (yld_extract rfl rfl) rfl ?_
 refine ops_alloc Tryz.zeroValue28 rfl fun b4 => ?_
 refine ops_store 0 Tryz.sizeOf28 rfl rfl rfl rfl rfl rfl ?_
 refine ops_val (yld_assign rfl) rfl (ops_nil (fin_next rfl (run_seq (run_region (ops_val (yld_move rfl) rfl (ops_val (yld_loadS 0 Tryz.isAgg28 Tryz.sizeOf28 rfl rfl rfl) rfl ?_))))))
 refine ops_call (next_c [(Pc.mk 3 [65] [] [66] [114] [] [] 0 0 0), (Pc.mk 4 [42] [] [67] [114] [] [] 0 0 0)] (some ⟨b3, 0, none⟩) 2 c3 (Pc.sm_all (by decide +kernel)) (by decide) (by rw [ha3, atS_P3]; decide) (by rw [hf3]; have := F3_len; omega)) rfl pf_nil (fun v _ h => by exact ⟨h.2.2.1, h.2.2.2.2.2.2.2.1, h.1, h.2.1, trivial⟩) rfl fun ⟨⟨oad, ocap, nl, ne⟩, hrk, hNx⟩ => ?_
 dsimp only
 dsimp only at hrk hNx
 obtain ⟨rfl, rfl⟩ := sane4 ha3 hf3 hNx
 refine ops_val (yld_move rfl) rfl (ops_val (yld_extract rfl rfl) rfl ?_)
 refine ops_val (yld_extract rfl rfl) rfl ?_
 refine ops_val (yld_assign rfl) rfl (ops_val (yld_assign rfl) rfl (ops_nil (fin_next rfl (run_seq ?_))))
 have hlx1 : 0 < List.length (Cl.atoms c1) := by rw [ha1]; decide
 obtain ⟨x1, hx1⟩ : ∃ e0, (Cl.atoms c1)[0]? = some e0 := ⟨_, List.getElem?_eq_getElem hlx1⟩
 have hmx1 : x1 ∈ (Cl.atoms c1) := List.mem_of_getElem? hx1
 have hx1e : x1 = [33] := by rw [ha1] at hx1; simpa using hx1.symm
 refine run_draw' (by kernel_rfl) ?_
 refine any_sq 46 [0, 1, 2, 3, 4, 5, 6, 7, 8] (by kernel_rfl) (fun _ a b => ⟨a, b⟩) ?_
 refine sq_val rfl (yld_move rfl) rfl ?_
 refine sq_val rfl (yld_eq (yld_eql rfl rfl) (show _ = Value.bool true from congrArg Value.bool (by decide))) rfl ?_
 refine sq_val rfl (yld_move rfl) rfl ?_
 refine sq_valY rfl rfl rfl (yld_field Tryz.runUnderlying28 rfl rfl rfl Tryz.sizeOf25) rfl ?_
 refine sq_valY rfl rfl rfl (yld_load 2 Tryz.isAgg25 rfl rfl rfl) rfl ?_
 refine sq_valY rfl rfl rfl (yld_lenS Tryz.runUnderlying25 rfl) rfl ?_
 refine sq_valYB rfl rfl rfl (yld_eql rfl rfl) rfl fun r1 hr1 => ?_
 refine sq_val rfl (yld_pick_t rfl rfl) rfl ?_
 refine sq_val rfl (yld_move rfl) rfl ?_
 refine sq_nil ?_
 cases r1
 ·
  replace hr1 := ne_of_beq_false hr1
  exact absurd (by rw [ha1]; rfl) hr1
 ·
  replace hr1 := eq_of_beq hr1
  refine any_sq 39 [9, 10, 11, 12, 13, 14, 15] (by kernel_rfl) (fun _ a b => ⟨a, b⟩) ?_
  refine sq_valY rfl rfl rfl (yld_field Tryz.runUnderlying28 rfl rfl rfl Tryz.sizeOf25) rfl ?_
  refine sq_valY rfl rfl rfl (yld_load 2 Tryz.isAgg25 rfl rfl rfl) rfl ?_
  refine sq_valY rfl rfl rfl (yld_indexR Tryz.runUnderlying25 Tryz.sizeOf9 rfl rfl (fun v _ h => row_adr (n := 1) strC_len (by decide) (by exact h.2.2.2.2.2.2.1) hx1) (by omega) (by first | omega | (simp; done))) rfl ?_
  refine sq_valY rfl rfl rfl (yld_loadR (ad := (Cl.aad c1)) Tryz.isAgg9 rfl (fun v _ h => by exact h.2.2.2.2.2.2.1) (row_cells strC_len hx1 0 _ rfl)) rfl ?_
  refine sq_valYB rfl rfl rfl (yld_seql rfl rfl) rfl fun r2 hr2 => ?_
  refine sq_val rfl (yld_pick_t rfl rfl) rfl ?_
  refine sq_val rfl (yld_move rfl) rfl ?_
  refine sq_nil ?_
  cases r2
  ·
   replace hr2 := ne_of_beq_false hr2
   exact absurd hx1e hr2
  ·
   replace hr2 := eq_of_beq hr2
   refine any_sq 33 [16, 17, 18, 19, 20, 21] (by kernel_rfl) (fun _ a b => ⟨a, b⟩) ?_
   refine sq_valY rfl rfl rfl (yld_field Tryz.runUnderlying28 rfl rfl rfl Tryz.sizeOf26) rfl ?_
   refine sq_valY rfl rfl rfl (yld_load 2 Tryz.isAgg26 rfl rfl rfl) rfl ?_
   refine sq_valY rfl rfl rfl (yld_lenS Tryz.runUnderlying26 rfl) rfl ?_
   refine sq_valYB rfl rfl rfl (yld_eql rfl rfl) rfl fun r3 hr3 => ?_
   refine sq_val rfl (yld_pick_t rfl rfl) rfl ?_
   refine sq_val rfl (yld_move rfl) rfl ?_
   refine sq_nil ?_
   cases r3
   ·
    replace hr3 := ne_of_beq_false hr3
    exact absurd (by rw [hf1, F0_len]; rfl) hr3
   ·
    replace hr3 := eq_of_beq hr3
    refine any_sq 24 [22, 23, 24, 25, 26, 27, 28, 29, 30] (by kernel_rfl) (fun _ a b => ⟨a, b⟩) ?_
    refine sq_valY rfl rfl rfl (yld_move rfl) rfl ?_
    refine sq_valY rfl rfl rfl (yld_eq (yld_eql rfl rfl) (show _ = Value.bool true from congrArg Value.bool (by decide))) rfl ?_
    refine sq_val rfl (yld_pick_t rfl rfl) rfl ?_
    refine sq_val rfl (yld_move rfl) rfl ?_
    refine sq_valY rfl rfl rfl (yld_move rfl) rfl ?_
    refine sq_valY rfl rfl rfl (yld_eq (yld_eql rfl rfl) (show _ = Value.bool true from congrArg Value.bool (by decide))) rfl ?_
    refine sq_val rfl (yld_pick_t rfl rfl) rfl ?_
    refine sq_val rfl (yld_move rfl) rfl ?_
    refine sq_valY rfl rfl rfl (yld_loadS 0 Tryz.isAgg28 Tryz.sizeOf28 rfl rfl rfl) rfl ?_
    refine sq_nil ?_
    refine any_one 31 rfl (by kernel_rfl) ?_
    refine ops_yes rfl rfl (ops_call (rlink_c [65] [114] [66]) rfl pf_nil (fun _ _ _ => by exact trivial) rfl fun _ => ?_)
    refine ops_nil (fin_inv rfl (any_next (fun _ a b => ⟨a, b⟩) ?_))
    refine any_one 32 rfl (by kernel_rfl) ?_
    refine ops_yes rfl rfl (ops_callB (der_c c3 (flink [65] [114] [66]) (by rw [hf3]; have := F3_len; omega)) rfl pf_nil (fun v _ h => by exact ⟨h.2.2.1, trivial⟩) rfl fun r4 hr4 => ?_)
    refine ops_nil (fin_inv rfl (any_next (fun _ a b => ⟨a, b⟩) ?_))
    refine any_sq 20 [33, 34] (by kernel_rfl) (fun _ a b => ⟨a, b⟩) ?_
    refine sq_val rfl (yld_pick_t rfl rfl) rfl ?_
    refine sq_val rfl (yld_move rfl) rfl ?_
    refine sq_nil ?_
    cases r4
    ·
     rw [hf3, F3_a] at hr4; cases hr4
    ·
     refine any_sq 19 [35] (by kernel_rfl) (fun _ a b => ⟨a, b⟩) ?_
     refine sq_valY rfl rfl rfl (yld_loadS 0 Tryz.isAgg28 Tryz.sizeOf28 rfl rfl rfl) rfl ?_
     refine sq_nil ?_
     refine any_one 36 rfl (by kernel_rfl) ?_
     refine ops_yes rfl rfl (ops_call (rsub_c [65] [67]) rfl pf_nil (fun _ _ _ => by exact trivial) rfl fun _ => ?_)
     refine ops_nil (fin_inv rfl (any_next (fun _ a b => ⟨a, b⟩) ?_))
     refine any_one 37 rfl (by kernel_rfl) ?_
     refine ops_yes rfl rfl (ops_callB (der_c c3 (fsub [65] [67]) (by rw [hf3]; have := F3_len; omega)) rfl pf_nil (fun v _ h => by exact ⟨h.2.2.1, trivial⟩) rfl fun r5 hr5 => ?_)
     refine ops_nil (fin_inv rfl (any_next (fun _ a b => ⟨a, b⟩) ?_))
     refine any_sq 15 [38, 39] (by kernel_rfl) (fun _ a b => ⟨a, b⟩) ?_
     refine sq_val rfl (yld_pick_t rfl rfl) rfl ?_
     refine sq_val rfl (yld_move rfl) rfl ?_
     refine sq_nil ?_
     cases r5
     ·
      rw [hf3, F3_b] at hr5; cases hr5
     ·
      refine any_sq 14 [40] (by kernel_rfl) (fun _ a b => ⟨a, b⟩) ?_
      refine sq_valY rfl rfl rfl (yld_loadS 0 Tryz.isAgg28 Tryz.sizeOf28 rfl rfl rfl) rfl ?_
      refine sq_nil ?_
      refine any_one 41 rfl (by kernel_rfl) ?_
      refine ops_yes rfl rfl (ops_call (rsub_c [66] [67]) rfl pf_nil (fun _ _ _ => by exact trivial) rfl fun _ => ?_)
      refine ops_nil (fin_inv rfl (any_next (fun _ a b => ⟨a, b⟩) ?_))
      refine any_one 42 rfl (by kernel_rfl) ?_
      refine ops_yes rfl rfl (ops_callB (der_c c3 (fsub [66] [67]) (by rw [hf3]; have := F3_len; omega)) rfl pf_nil (fun v _ h => by exact ⟨h.2.2.1, trivial⟩) rfl fun r6 hr6 => ?_)
      refine ops_nil (fin_inv rfl (any_next (fun _ a b => ⟨a, b⟩) ?_))
      refine any_sq 9 [43, 44, 45] (by kernel_rfl) (fun _ a b => ⟨a, b⟩) ?_
      refine sq_valY rfl rfl rfl (yld_not rfl) rfl ?_
      refine sq_val rfl (yld_pick_t rfl rfl) rfl ?_
      refine sq_val rfl (yld_move rfl) rfl ?_
      refine sq_nil ?_
      cases r6
      ·
       refine any_sq 0 [46, 47, 48, 49, 50, 51, 52, 53, 54] (by kernel_rfl) (fun _ a b => ⟨a, b⟩) ?_
       refine sq_valY rfl rfl rfl (yld_move rfl) rfl ?_
       refine sq_valY rfl rfl rfl (yld_eq (yld_eql rfl rfl) (show _ = Value.bool true from congrArg Value.bool (by decide))) rfl ?_
       refine sq_val rfl (yld_pick_t rfl rfl) rfl ?_
       refine sq_val rfl (yld_move rfl) rfl ?_
       refine sq_valY rfl rfl rfl (yld_move rfl) rfl ?_
       refine sq_valY rfl rfl rfl (yld_lenS Tryz.runUnderlying26 rfl) rfl ?_
       refine sq_valY rfl rfl rfl (yld_eq (yld_eql rfl rfl) (show _ = Value.bool true from congrArg Value.bool (by decide))) rfl ?_
       refine sq_val rfl (yld_pick_t rfl rfl) rfl ?_
       refine sq_val rfl (yld_assign rfl) rfl ?_
       refine sq_nil ?_
       refine any_done (by kernel_rfl) ?_
       refine fin_next rfl (run_ret ?_)
       exact ret1 Tryz.results15 () rfl pf_nil (fun _ _ _ => trivial)
      ·
       rw [hf3, F3_c] at hr6; cases hr6
end Go.Proofs.YtpdbbglpbngeiaaGreatDoor
namespace Go.Proofs.YtpdbbglpbngeiaaGreatDoor
open Go Go.Sx Go.Proofs
set_option linter.unusedVariables false
attribute [local irreducible] Code.wp wpList wpAnyH
open Go.Vs
/-- each piece of p is one of q, but for its source -/
def SubP (p q : List Pc) : Prop := ∀ x ∈ p, ∃ y ∈ q, ∃ n, { y with frm := n } = x
theorem SubP.of {p q : List Pc} (h : ∀ x ∈ p, x ∈ q) : SubP p q := fun x hx => ⟨x, h x hx, x.frm, rfl⟩
theorem SubP.at' {p q : List Pc} (h : SubP p q) : ∀ s ∈ atS p, s ∈ atS q := fun s hs => by
  rw [atS_mem, atomsL_mem] at hs ⊢
  rcases hs with h1 | h1
  · obtain ⟨x, hx, h2⟩ := List.mem_flatMap.1 h1
    obtain ⟨y, hy, n, e⟩ := h x hx
    subst e
    exact .inl (List.mem_flatMap.2 ⟨y, hy, h2⟩)
  · exact .inr h1
theorem SubP.der {p q : List Pc} (h : SubP p q) {y : Fc} (hy : Der p (atS p) y) : Der q (atS q) y := hy.mono h h.at'
theorem SubP.atS_eq {p q : List Pc} (h : SubP p q) (h' : SubP q p) : atS p = atS q :=
  sorted_ext str_irr List.lt_trans (atS_lt p) (atS_lt q) fun x => ⟨h.at' x, h'.at' x⟩
theorem AllIs.congrP {p q : List Pc} {m : Nat} {r : Option (List Fc)} (h : SubP p q) (h' : SubP q p) (hr : AllIs p (atS p) m r) : AllIs q (atS q) m r := by
  cases r with
  | none => obtain ⟨M, h1, h2, h3⟩ := hr; exact ⟨M, h1, fun y hy => h.der (h2 y hy), h3⟩
  | some L => exact ⟨hr.1, fun y => (hr.2.1 y).trans ⟨h.der, h'.der⟩, hr.2.2⟩
theorem AllIs.less {p q : List Pc} {m : Nat} {L : List Fc} {r : Option (List Fc)} (h : SubP q p) (hp : AllIs p (atS p) m (some L)) (hq : AllIs q (atS q) m r) : ∃ M, r = some M ∧ ∀ y ∈ M, y ∈ L := by
  cases r with
  | none =>
    obtain ⟨M, h1, h2, h3⟩ := hq
    have := nodup_le h1 fun x hx => (hp.2.1 x).2 (h.der (h2 x hx))
    have := hp.2.2
    omega
  | some M => exact ⟨M, rfl, fun y hy => (hp.2.1 y).2 (h.der ((hq.2.1 y).1 hy))⟩
theorem checkP_sub {p q : List Pc} (hp : checkP p = 0) (hl : q.length ≤ p.length) (h : ∀ x ∈ q, x ∈ p) : checkP q = 0 := by
  obtain ⟨h1, h2⟩ := check_ok hp
  unfold checkP
  rw [if_neg (by omega), if_pos (List.all_eq_true.2 fun x hx => List.all_eq_true.1 h2 x (h x hx))]
theorem allR_is {p : List Pc} {bu : Int} {c : Cl} {e : Int} (h : AllR p bu c e) (hc : checkP p = 0) (hb : 0 ≤ bu) (hb2 : bu ≤ 1073741824) : (e = 0 ∧ c.atoms = atS p ∧ AllIs p (atS p) (min bu 65536).toNat (some c.facts)) ∨ (c = Cl.no ∧ e = (if bu < 65536 then 3 else 2) ∧ AllIs p (atS p) (min bu 65536).toNat none) := by
  unfold AllR at h
  rw [if_neg (by simp [hc]), if_neg (by omega)] at h
  rcases h with ⟨h1, _, h2, h3⟩ | h
  · exact .inl ⟨h1, h2, h3⟩
  · exact .inr h
/-- the closure depends on the set of pieces alone -/
theorem allR_same {p q : List Pc} {bu : Int} {c d : Cl} {e f : Int} (h : SubP p q) (h' : SubP q p) (hp : AllR p bu c e) (hq : AllR q bu d f) (hc : checkP p = 0) (hd : checkP q = 0) (hb : 0 ≤ bu) (hb2 : bu ≤ 1073741824) : c.atoms = d.atoms ∧ c.facts = d.facts ∧ e = f := by
  rcases allR_is hp hc hb hb2 with ⟨h1, h2, h3⟩ | ⟨h1, h2, h3⟩
  · obtain ⟨g1, g2, g3⟩ := (allR_of hq hd hb hb2 (AllIs.congrP h h' h3)).1 _ rfl
    exact ⟨by rw [h2, g3, h.atS_eq h'], g2.symm, by rw [h1, g1]⟩
  · obtain ⟨g1, g2⟩ := (allR_of hq hd hb hb2 (AllIs.congrP h h' h3)).2 rfl
    subst h1 g1
    exact ⟨rfl, rfl, by rw [h2, g2]⟩
/-- with more pieces nothing is lost -/
theorem allR_less {p q : List Pc} {bu : Int} {c d : Cl} {g : Int} (h : ∀ x ∈ q, x ∈ p) (hl : q.length ≤ p.length) (hp : AllR p bu c 0) (hq : AllR q bu d g) : g = 0 ∧ ∀ y ∈ d.facts, y ∈ c.facts := by
  obtain ⟨h1, h2, h3, _, _, h4⟩ := hp.good
  rcases allR_is hq (checkP_sub h1 hl h) h2 h3 with ⟨g1, _, g3⟩ | ⟨_, _, g3⟩
  · obtain ⟨M, e, hM⟩ := AllIs.less (SubP.of h) h4 g3
    obtain rfl := Option.some.inj e
    exact ⟨g1, hM⟩
  · obtain ⟨M, e, _⟩ := AllIs.less (SubP.of h) h4 g3
    cases e
/-- without its source -/
def Pc.nf (x : Pc) : Pc := ⟨x.kind, x.a, x.b, x.c, x.r, x.s, x.t, x.lo, x.hi, -1⟩
def nfL (k : Nat) (l : List Pc) : List Pc := (l.take k).map Pc.nf ++ l.drop k
theorem nfL_len (k : Nat) (l : List Pc) : (nfL k l).length = l.length := by
  unfold nfL; rw [List.length_append, List.length_map, ← List.length_append, List.take_append_drop]
theorem nfL_zero (l : List Pc) : nfL 0 l = l := by simp [nfL]
theorem nfL_get {k : Nat} {l : List Pc} (h : k < l.length) : (nfL k l)[k]? = l[k]? := by
  unfold nfL
  rw [List.getElem?_append_right (by rw [List.length_map, List.length_take]; omega), List.length_map, List.length_take, Nat.min_eq_left (by omega), Nat.sub_self, List.getElem?_drop, Nat.add_zero]
theorem nfL_step {k : Nat} {l : List Pc} {x : Pc} (h : l[k]? = some x) : (nfL k l).set k (Pc.nf x) = nfL (k + 1) l := by
  have hk := (List.getElem?_eq_some_iff.1 h).1
  have hd : l.drop k = x :: l.drop (k + 1) := by rw [List.drop_eq_getElem_cons hk]; congr 1; exact (List.getElem?_eq_some_iff.1 h).2
  unfold nfL
  rw [List.set_append_right _ _ (by rw [List.length_map, List.length_take]; omega), List.length_map, List.length_take, Nat.min_eq_left (by omega), Nat.sub_self, hd, List.set_cons_zero, List.take_add_one, h, Option.toList_some, List.map_append, List.append_assoc]
  rfl
theorem nfL_end {l : List Pc} {k : Nat} (h : l.length ≤ k) : nfL k l = l.map Pc.nf := by
  unfold nfL; rw [List.take_of_length_le h, List.drop_eq_nil_of_le h, List.append_nil]
theorem nf_sub (l : List Pc) : SubP (l.map Pc.nf) l := fun x hx => by
  obtain ⟨y, hy, rfl⟩ := List.mem_map.1 hx
  exact ⟨y, hy, -1, rfl⟩
theorem nf_sub' (l : List Pc) : SubP l (l.map Pc.nf) := fun x hx => ⟨(Pc.nf x), List.mem_map_of_mem hx, x.frm, rfl⟩
/-- the pieces turned, the first one again -/
def turnL (p : List Pc) (i : Nat) (x : Pc) : List Pc := p.drop i ++ p.take i ++ [x]
theorem turn_mem {p : List Pc} {i : Nat} {x : Pc} (h : x ∈ p) (y : Pc) : y ∈ turnL p i x ↔ y ∈ p := by
  unfold turnL
  rw [List.mem_append, List.mem_append, List.mem_singleton, or_comm (a := y ∈ p.drop i), ← List.mem_append, List.take_append_drop]
  exact ⟨fun q => q.elim id fun e => e ▸ h, .inl⟩
theorem SubP.trans {p q r : List Pc} (h : SubP p q) (k : SubP q r) : SubP p r := fun x hx => by
  obtain ⟨y, hy, n, rfl⟩ := h x hx
  obtain ⟨z, hz, m, rfl⟩ := k y hy
  exact ⟨z, hz, n, rfl⟩
theorem turn_sub {p : List Pc} {i : Nat} {x : Pc} (h : x ∈ p) : SubP ((turnL p i x).map Pc.nf) p ∧ SubP p ((turnL p i x).map Pc.nf) :=
  ⟨(nf_sub _).trans (SubP.of fun y hy => (turn_mem h y).1 hy), (SubP.of fun y hy => (turn_mem h y).2 hy).trans (nf_sub' _)⟩
theorem drop_one {p : List Pc} {i : Nat} : ∀ x ∈ p.take i ++ p.drop (i + 1), x ∈ p := fun x hx =>
  (List.mem_append.1 hx).elim List.mem_of_mem_take List.mem_of_mem_drop
end Go.Proofs.YtpdbbglpbngeiaaGreatDoor
namespace Go.Proofs.YtpdbbglpbngeiaaGreatDoor
open Go Go.Sx Go.Proofs
set_option linter.unusedVariables false
attribute [local irreducible] Code.wp wpList wpAnyH
open Go.Vs
theorem turn_ix (a : Int) {n : Nat} (h0 : 0 < n) (hn : n ≤ 1099511627776) : ∃ i : Nat, i < n ∧ IntKind.wrap .i64 ((IntKind.wrap .u64 a).tmod (n : Int)) = (i : Int) ∧ 0 ≤ (IntKind.wrap .u64 a).tmod (n : Int) ∧ (IntKind.wrap .u64 a).tmod (n : Int) < n := by
  have h1 : 0 ≤ IntKind.wrap .u64 a := by
    simp only [IntKind.wrap, IntKind.signed, IntKind.bits, Bool.false_and, Bool.false_eq_true, if_false]
    exact Int.emod_nonneg _ (by decide)
  have e : (IntKind.wrap .u64 a).tmod (n : Int) = (IntKind.wrap .u64 a) % (n : Int) := Int.tmod_eq_emod_of_nonneg h1
  have h2 : 0 ≤ (IntKind.wrap .u64 a) % (n : Int) := Int.emod_nonneg _ (by omega)
  have h3 : (IntKind.wrap .u64 a) % (n : Int) < n := Int.emod_lt_of_pos _ (by omega)
  refine ⟨((IntKind.wrap .u64 a) % (n : Int)).toNat, by omega, ?_, by rw [e]; exact h2, by rw [e]; exact h3⟩
  rw [e, wrap64 (by omega) (by omega)]
  omega
theorem turn_sm {p : List Pc} {i : Nat} {x : Pc} (hx : x ∈ p) (h : ∀ y ∈ p, y.sm) : ∀ y ∈ (turnL p i x).map Pc.nf, y.sm := fun y hy => by
  obtain ⟨z, hz, rfl⟩ := List.mem_map.1 hy
  have g := h z ((turn_mem hx z).1 hz)
  exact ⟨g.a, g.b, g.c, g.r, g.s, g.t⟩
theorem AllR.srt {p : List Pc} {bu : Int} {c : Cl} {e : Int} (h : AllR p bu c e) : Srt c.facts := by
  by_cases he : e = 0
  · subst he; exact h.good.2.2.2.2.2.1
  · rw [h.bad he]; exact List.Pairwise.nil
set_option maxHeartbeats 2000000 in
theorem satOrder_c (p : List Pc) (pad : Option Addr) (pcap : Nat) (at' : Int) (hp : p.length ≤ 1099511627744) (hpc : p.length ≤ pcap) (hpm : pcap ≤ 1099511627744) (hbig : ∀ x ∈ p, x.big) : Tri Tryz.prog 6 #[.slice pad (List.length p) pcap, .int .i64 at'] [] [rowF pad (List.flatMap Pc.cells p), tabN] (fun _ : Unit => .bool true) (fun _ => []) (fun _ => []) := by
 refine tri_of_body Tryz.func6 rfl rfl Tryz.ntmps6 rfl fun v0 => ?_
 refine run_seq (run_region (ops_val (yld_assign rfl) rfl (ops_nil (fin_next rfl (run_seq (run_seq (run_region ?_)))))))
 refine ops_call (sane10_c) rfl pf_nil (fun v _ h => by exact ⟨h.2.1, trivial⟩) rfl fun _ => ?_
 refine ops_val (yld_not rfl) rfl ?_
 refine ops_nil (fin_next rfl (run_cond_f rfl (run_skip (fin_next rfl (run_seq (run_seq (run_region ?_)))))))
 refine ops_val (yld_move rfl) rfl (ops_call (few10_c p pad pcap hp hbig) rfl pf_nil (fun v _ h => by exact ⟨h.1, trivial⟩) rfl fun ⟨sb, hsb⟩ => ?_)
 dsimp only
 refine ops_val (yld_not rfl) rfl ?_
 refine ops_val (yld_move rfl) rfl ?_
 cases sb
 ·
  refine ops_no rfl rfl rfl rfl (ops_no rfl rfl rfl rfl (ops_no rfl rfl rfl rfl (ops_val (yld_pick_t rfl rfl) rfl ?_)))
  refine ops_nil (fin_next rfl (run_cond_t rfl (run_seq (run_region (ops_val (yld_assign rfl) rfl (ops_nil (fin_next rfl ?_)))))))
  refine run_ret ?_
  exact ret1 Tryz.results6 () rfl pf_nil (fun _ _ _ => trivial)
 ·
  obtain ⟨hl40, hsm⟩ := hsb rfl
  refine ops_yes rfl rfl (ops_val (yld_move rfl) rfl (ops_yes rfl rfl (ops_val (yld_lenS Tryz.runUnderlying22 rfl) rfl ?_)))
  refine ops_yes rfl rfl (ops_valB (yld_eql rfl rfl) rfl fun r1 hr1 => ?_)
  refine ops_val (yld_pick_f rfl rfl) rfl ?_
  refine ops_nil (fin_next rfl ?_)
  cases r1
  ·
   replace hr1 := ne_of_beq_false hr1
   have hnz := hr1
   refine run_cond_f rfl (run_skip (fin_next rfl (run_seq ?_)))
   have hp0 : 0 < List.length p := Nat.pos_of_ne_zero (by intro q; exact absurd (by rw [q]; rfl) hnz)
   obtain ⟨i, hi, hie, hi1, hi2⟩ := turn_ix at' hp0 (by omega)
   refine ok_get (p := pad ≠ none) (fun v _ h => by rcases RowAt.addr h.1 (by intro q; have := congrArg List.length q; rw [fm_len Pc.cells 10 Pc.cells_len] at this; simp at this; omega) with ⟨b, o, e⟩; simp [e]) fun hpn => ?_
   have hc3 : pad = none → pcap = 0 := fun q => absurd q hpn
   refine run_region (ops_val (yld_move rfl) rfl (ops_val (yld_cvU Tryz.underlying3 Tryz.underlying45 rfl rfl) rfl ?_))
   refine ops_val (yld_move rfl) rfl (ops_val (yld_lenS Tryz.runUnderlying22 rfl) rfl ?_)
   refine ops_val (yld_cvU Tryz.underlying3 Tryz.underlying45 rfl (wrapU (by omega) (by omega))) rfl ?_
   refine ops_val (yld_remU rfl rfl (by omega) (wrapU hi1 (by omega))) rfl ?_
   refine ops_val (yld_cvU Tryz.underlying45 Tryz.underlying3 rfl hie) rfl ?_
   refine ops_val (yld_assign rfl) rfl (ops_nil (fin_next rfl ?_))
   have hlx1 : i < List.length p := hi
   obtain ⟨x1, hx1⟩ : ∃ e0, p[i]? = some e0 := ⟨_, List.getElem?_eq_getElem hlx1⟩
   have hmx1 : x1 ∈ p := List.mem_of_getElem? hx1
   refine run_seq ?_
   refine run_cut (ι := {y : Value × Hp // SRow 47 10 y.1 (List.length (((([] : List Pc) ++ (List.drop i p)) ++ (List.take i p)) ++ [x1])) (List.flatMap Pc.cells (((([] : List Pc) ++ (List.drop i p)) ++ (List.take i p)) ++ [x1])) y.2}) (fun y => [(0, .slice pad (List.length p) pcap), (4, .bool false), (5, .int .i64 (i : Int)), (6, y.1.1)]) (fun y => (y.1.2)) (fun y => [rowF pad (List.flatMap Pc.cells p), tabN]) ?_ ?_
   ·
    refine run_drawH ([]) (by kernel_rfl) ?_
    refine any_sq 6 [1, 2, 3, 5, 6, 7, 9, 10, 11, 12] (by kernel_rfl) (fun _ a b => ⟨satNil a, b⟩) ?_
    refine sq_val rfl (yld_move rfl) rfl ?_
    refine sq_val rfl (yld_move rfl) rfl ?_
    refine sq_val rfl (yld_eq (yld_sliceS (i := i) (j := List.length p) (kl := .i64) (kh := .i64) Tryz.runUnderlying22 Tryz.sizeOf47 rfl rfl rfl (by omega) (by have := hpc; omega)) (show _ = Value.slice (sad pad pcap i 10) (List.length (List.drop i p)) (pcap - i) by rw [List.length_drop])) rfl ?_
    refine sq_val rfl (yld_move rfl) rfl ?_
    refine sq_val rfl (yld_move rfl) rfl ?_
    refine sq_val rfl (yld_eq (yld_sliceS (i := 0) (j := i) (kl := .i64) (kh := .i64) Tryz.runUnderlying22 Tryz.sizeOf47 rfl rfl rfl (by omega) (by have := hpc; omega)) (show _ = Value.slice (sad pad pcap 0 10) (List.length (List.take i p)) (pcap - 0) by rw [List.length_take, Nat.min_eq_left (by omega)]; rfl)) rfl ?_
    refine sq_val rfl (yld_move rfl) rfl ?_
    refine sq_val rfl (yld_move rfl) rfl ?_
    refine sq_val rfl (yld_indexR Tryz.runUnderlying22 Tryz.sizeOf47 rfl rfl (fun v _ h => row_adr (n := 10) Pc.cells_len (by decide) (by exact h.1) hx1) (by omega) (by first | omega | (simp; done))) rfl ?_
    refine sq_val rfl (yld_loadRS (ad := pad) (us := Pc.cells x1) Tryz.isAgg47 Tryz.sizeOf47 rfl (fun v _ h => by exact h.1) (Pc.cells_len _) (row_cells Pc.cells_len hx1)) rfl ?_
    refine sq_nil ?_
    refine any_two 0 13 rfl rfl (by kernel_rfl) ?_ ?_
    ·
     refine ops_slit0 Tryz.runUnderlying22 Tryz.sizeOf47 rfl fun b1 => ?_
     refine ok_perm pf_here ?_
     refine ops_nil (fin_inv rfl (any_next (fun _ a b => ⟨satNil a, b⟩) ?_))
     refine any_two 4 13 rfl rfl (by kernel_rfl) ?_ ?_
     ·
      refine ops_appendR (news := List.flatMap Pc.cells (List.drop i p)) elt_pc (srow_new b1 47 10) rfl rfl (fun q => by have := hc3 (sad_none q); omega) (by rw [List.length_drop]; have := hpc; omega) pf_end (by rw [fm_len Pc.cells 10 Pc.cells_len]) (fun v _ h => by exact (RowAt.rest Pc.cells_len h.1 hpc i)) (fun u hu => one_rows Pc.cells_one hu) (by simp only [maxLen]; (simp only [List.length_append, List.length_drop, List.length_take, List.length_nil, List.length_cons]; omega)) (by (simp only [List.length_append, List.length_drop, List.length_take, List.length_nil, List.length_cons]; omega)) rfl fun sv1 Hr1 hr1 => ?_
      refine ok_perm List.perm_append_comm ?_
      have hq1 : SRow 47 10 sv1 (List.length (([] : List Pc) ++ (List.drop i p))) (List.flatMap Pc.cells (([] : List Pc) ++ (List.drop i p))) Hr1 := by rw [List.length_append, List.flatMap_append]; exact hr1
      refine ops_nil (fin_inv rfl (any_next (fun _ a b => ⟨satNil a, b⟩) ?_))
      refine any_two 8 13 rfl rfl (by kernel_rfl) ?_ ?_
      ·
       refine ops_appendR (news := List.flatMap Pc.cells (List.take i p)) elt_pc hq1 rfl rfl (fun q => by have := hc3 (sad_none q); omega) (by rw [List.length_take]; have := hpc; omega) pf_end (by rw [fm_len Pc.cells 10 Pc.cells_len]) (fun v _ h => by exact (RowAt.slice Pc.cells_len h.1 hpc 0 i)) (fun u hu => one_rows Pc.cells_one hu) (by simp only [maxLen]; (simp only [List.length_append, List.length_drop, List.length_take, List.length_nil, List.length_cons]; omega)) (by (simp only [List.length_append, List.length_drop, List.length_take, List.length_nil, List.length_cons]; omega)) rfl fun sv2 Hr2 hr2 => ?_
       refine ok_perm List.perm_append_comm ?_
       have hq2 : SRow 47 10 sv2 (List.length ((([] : List Pc) ++ (List.drop i p)) ++ (List.take i p))) (List.flatMap Pc.cells ((([] : List Pc) ++ (List.drop i p)) ++ (List.take i p))) Hr2 := by rw [List.length_append, List.flatMap_append]; exact hr2
       refine ops_nil (fin_inv rfl (any_next (fun _ a b => ⟨satNil a, b⟩) ?_))
       refine any_one 13 rfl (by kernel_rfl) ?_
       refine ops_slit Tryz.runUnderlying22 Tryz.sizeOf47 Tryz.zeroValue47 rfl rfl rfl rfl rfl rfl fun b2 => ?_
       refine ok_giveR (List.flatMap Pc.cells [x1]) pf_here rfl ?_
       refine ops_nil (fin_inv rfl (any_next (fun _ a b => ⟨satNil a, b.2⟩) ?_))
       refine any_one 14 rfl (by kernel_rfl) ?_
       refine ops_appendR (news := List.flatMap Pc.cells [x1]) elt_pc hq2 rfl rfl (fun q => by cases q) (by simp) pf_end (by rw [fm_len Pc.cells 10 Pc.cells_len]; rfl) (fun v _ h => by exact h.1) (fun u hu => one_rows Pc.cells_one hu) (by simp only [maxLen]; (simp only [List.length_append, List.length_drop, List.length_take, List.length_nil, List.length_cons]; omega)) (by (simp only [List.length_append, List.length_drop, List.length_take, List.length_nil, List.length_cons]; omega)) rfl fun sv3 Hr3 hr3 => ?_
       refine ok_perm List.perm_append_comm ?_
       have hq3 : SRow 47 10 sv3 (List.length (((([] : List Pc) ++ (List.drop i p)) ++ (List.take i p)) ++ [x1])) (List.flatMap Pc.cells (((([] : List Pc) ++ (List.drop i p)) ++ (List.take i p)) ++ [x1])) Hr3 := by rw [List.length_append, List.flatMap_append]; exact hr3
       refine ops_nil (fin_inv rfl (any_next (fun _ a b => ⟨satNil a, b.2⟩) ?_))
       refine any_sq 0 [15] (by kernel_rfl) (fun _ a b => ⟨satNil a, b.2⟩) ?_
       refine sq_val rfl (yld_assign rfl) rfl ?_
       refine sq_nil ?_
       refine any_done (by kernel_rfl) ?_
       refine fin_end rfl ?_
       exact mid_done ⟨(sv3, Hr3), hq3⟩ ⟨rfl, rfl, rfl, rfl, trivial⟩ pf_end (fun v _ h => by exact ⟨h.2.1, h.2.2.1, trivial⟩)
      ·
       refine ops_slit Tryz.runUnderlying22 Tryz.sizeOf47 Tryz.zeroValue47 rfl rfl rfl rfl rfl rfl fun b3 => ?_
       refine ok_giveR (List.flatMap Pc.cells [x1]) pf_here rfl ?_
       refine ops_nil (fin_inv rfl (any_next (fun _ a b => ⟨satNil a, b.2⟩) ?_))
       refine any_one 8 rfl (by kernel_rfl) ?_
       refine ops_appendR (news := List.flatMap Pc.cells (List.take i p)) elt_pc hq1 rfl rfl (fun q => by have := hc3 (sad_none q); omega) (by rw [List.length_take]; have := hpc; omega) pf_end (by rw [fm_len Pc.cells 10 Pc.cells_len]) (fun v _ h => by exact (RowAt.slice Pc.cells_len h.2.1 hpc 0 i)) (fun u hu => one_rows Pc.cells_one hu) (by simp only [maxLen]; (simp only [List.length_append, List.length_drop, List.length_take, List.length_nil, List.length_cons]; omega)) (by (simp only [List.length_append, List.length_drop, List.length_take, List.length_nil, List.length_cons]; omega)) rfl fun sv4 Hr4 hr4 => ?_
       refine ok_perm List.perm_append_comm ?_
       have hq4 : SRow 47 10 sv4 (List.length ((([] : List Pc) ++ (List.drop i p)) ++ (List.take i p))) (List.flatMap Pc.cells ((([] : List Pc) ++ (List.drop i p)) ++ (List.take i p))) Hr4 := by rw [List.length_append, List.flatMap_append]; exact hr4
       refine ops_nil (fin_inv rfl (any_next (fun _ a b => ⟨satNil a, b.2⟩) ?_))
       refine any_one 14 rfl (by kernel_rfl) ?_
       refine ops_appendR (news := List.flatMap Pc.cells [x1]) elt_pc hq4 rfl rfl (fun q => by cases q) (by simp) pf_end (by rw [fm_len Pc.cells 10 Pc.cells_len]; rfl) (fun v _ h => by exact h.1) (fun u hu => one_rows Pc.cells_one hu) (by simp only [maxLen]; (simp only [List.length_append, List.length_drop, List.length_take, List.length_nil, List.length_cons]; omega)) (by (simp only [List.length_append, List.length_drop, List.length_take, List.length_nil, List.length_cons]; omega)) rfl fun sv5 Hr5 hr5 => ?_
       refine ok_perm List.perm_append_comm ?_
       have hq5 : SRow 47 10 sv5 (List.length (((([] : List Pc) ++ (List.drop i p)) ++ (List.take i p)) ++ [x1])) (List.flatMap Pc.cells (((([] : List Pc) ++ (List.drop i p)) ++ (List.take i p)) ++ [x1])) Hr5 := by rw [List.length_append, List.flatMap_append]; exact hr5
       refine ops_nil (fin_inv rfl (any_next (fun _ a b => ⟨satNil a, b.2⟩) ?_))
       refine any_sq 0 [15] (by kernel_rfl) (fun _ a b => ⟨satNil a, b.2⟩) ?_
       refine sq_val rfl (yld_assign rfl) rfl ?_
       refine sq_nil ?_
       refine any_done (by kernel_rfl) ?_
       refine fin_end rfl ?_
       exact mid_done ⟨(sv5, Hr5), hq5⟩ ⟨rfl, rfl, rfl, rfl, trivial⟩ pf_end (fun v _ h => by exact ⟨h.2.1, h.2.2.1, trivial⟩)
     ·
      refine ops_slit Tryz.runUnderlying22 Tryz.sizeOf47 Tryz.zeroValue47 rfl rfl rfl rfl rfl rfl fun b4 => ?_
      refine ok_giveR (List.flatMap Pc.cells [x1]) pf_here rfl ?_
      refine ops_nil (fin_inv rfl (any_next (fun _ a b => ⟨satNil a, b.2⟩) ?_))
      refine any_one 4 rfl (by kernel_rfl) ?_
      refine ops_appendR (news := List.flatMap Pc.cells (List.drop i p)) elt_pc (srow_new b1 47 10) rfl rfl (fun q => by have := hc3 (sad_none q); omega) (by rw [List.length_drop]; have := hpc; omega) pf_end (by rw [fm_len Pc.cells 10 Pc.cells_len]) (fun v _ h => by exact (RowAt.rest Pc.cells_len h.2.1 hpc i)) (fun u hu => one_rows Pc.cells_one hu) (by simp only [maxLen]; (simp only [List.length_append, List.length_drop, List.length_take, List.length_nil, List.length_cons]; omega)) (by (simp only [List.length_append, List.length_drop, List.length_take, List.length_nil, List.length_cons]; omega)) rfl fun sv6 Hr6 hr6 => ?_
      refine ok_perm List.perm_append_comm ?_
      have hq6 : SRow 47 10 sv6 (List.length (([] : List Pc) ++ (List.drop i p))) (List.flatMap Pc.cells (([] : List Pc) ++ (List.drop i p))) Hr6 := by rw [List.length_append, List.flatMap_append]; exact hr6
      refine ops_nil (fin_inv rfl (any_next (fun _ a b => ⟨satNil a, b.2⟩) ?_))
      refine any_one 8 rfl (by kernel_rfl) ?_
      refine ops_appendR (news := List.flatMap Pc.cells (List.take i p)) elt_pc hq6 rfl rfl (fun q => by have := hc3 (sad_none q); omega) (by rw [List.length_take]; have := hpc; omega) pf_end (by rw [fm_len Pc.cells 10 Pc.cells_len]) (fun v _ h => by exact (RowAt.slice Pc.cells_len h.2.1 hpc 0 i)) (fun u hu => one_rows Pc.cells_one hu) (by simp only [maxLen]; (simp only [List.length_append, List.length_drop, List.length_take, List.length_nil, List.length_cons]; omega)) (by (simp only [List.length_append, List.length_drop, List.length_take, List.length_nil, List.length_cons]; omega)) rfl fun sv7 Hr7 hr7 => ?_
      refine ok_perm List.perm_append_comm ?_
      have hq7 : SRow 47 10 sv7 (List.length ((([] : List Pc) ++ (List.drop i p)) ++ (List.take i p))) (List.flatMap Pc.cells ((([] : List Pc) ++ (List.drop i p)) ++ (List.take i p))) Hr7 := by rw [List.length_append, List.flatMap_append]; exact hr7
      refine ops_nil (fin_inv rfl (any_next (fun _ a b => ⟨satNil a, b.2⟩) ?_))
      refine any_one 14 rfl (by kernel_rfl) ?_
      refine ops_appendR (news := List.flatMap Pc.cells [x1]) elt_pc hq7 rfl rfl (fun q => by cases q) (by simp) pf_end (by rw [fm_len Pc.cells 10 Pc.cells_len]; rfl) (fun v _ h => by exact h.1) (fun u hu => one_rows Pc.cells_one hu) (by simp only [maxLen]; (simp only [List.length_append, List.length_drop, List.length_take, List.length_nil, List.length_cons]; omega)) (by (simp only [List.length_append, List.length_drop, List.length_take, List.length_nil, List.length_cons]; omega)) rfl fun sv8 Hr8 hr8 => ?_
      refine ok_perm List.perm_append_comm ?_
      have hq8 : SRow 47 10 sv8 (List.length (((([] : List Pc) ++ (List.drop i p)) ++ (List.take i p)) ++ [x1])) (List.flatMap Pc.cells (((([] : List Pc) ++ (List.drop i p)) ++ (List.take i p)) ++ [x1])) Hr8 := by rw [List.length_append, List.flatMap_append]; exact hr8
      refine ops_nil (fin_inv rfl (any_next (fun _ a b => ⟨satNil a, b.2⟩) ?_))
      refine any_sq 0 [15] (by kernel_rfl) (fun _ a b => ⟨satNil a, b.2⟩) ?_
      refine sq_val rfl (yld_assign rfl) rfl ?_
      refine sq_nil ?_
      refine any_done (by kernel_rfl) ?_
      refine fin_end rfl ?_
      exact mid_done ⟨(sv8, Hr8), hq8⟩ ⟨rfl, rfl, rfl, rfl, trivial⟩ pf_end (fun v _ h => by exact ⟨h.2.1, h.2.2.1, trivial⟩)
    ·
     refine ops_slit Tryz.runUnderlying22 Tryz.sizeOf47 Tryz.zeroValue47 rfl rfl rfl rfl rfl rfl fun b5 => ?_
     refine ok_giveR (List.flatMap Pc.cells [x1]) pf_here rfl ?_
     refine ops_nil (fin_inv rfl (any_next (fun _ a b => ⟨satNil a, b.2⟩) ?_))
     refine any_one 0 rfl (by kernel_rfl) ?_
     refine ops_slit0 Tryz.runUnderlying22 Tryz.sizeOf47 rfl fun b6 => ?_
     refine ok_perm pf_here ?_
     refine ops_nil (fin_inv rfl (any_next (fun _ a b => ⟨satNil a, b.2⟩) ?_))
     refine any_one 4 rfl (by kernel_rfl) ?_
     refine ops_appendR (news := List.flatMap Pc.cells (List.drop i p)) elt_pc (srow_new b6 47 10) rfl rfl (fun q => by have := hc3 (sad_none q); omega) (by rw [List.length_drop]; have := hpc; omega) pf_end (by rw [fm_len Pc.cells 10 Pc.cells_len]) (fun v _ h => by exact (RowAt.rest Pc.cells_len h.2.1 hpc i)) (fun u hu => one_rows Pc.cells_one hu) (by simp only [maxLen]; (simp only [List.length_append, List.length_drop, List.length_take, List.length_nil, List.length_cons]; omega)) (by (simp only [List.length_append, List.length_drop, List.length_take, List.length_nil, List.length_cons]; omega)) rfl fun sv9 Hr9 hr9 => ?_
     refine ok_perm List.perm_append_comm ?_
     have hq9 : SRow 47 10 sv9 (List.length (([] : List Pc) ++ (List.drop i p))) (List.flatMap Pc.cells (([] : List Pc) ++ (List.drop i p))) Hr9 := by rw [List.length_append, List.flatMap_append]; exact hr9
     refine ops_nil (fin_inv rfl (any_next (fun _ a b => ⟨satNil a, b.2⟩) ?_))
     refine any_one 8 rfl (by kernel_rfl) ?_
     refine ops_appendR (news := List.flatMap Pc.cells (List.take i p)) elt_pc hq9 rfl rfl (fun q => by have := hc3 (sad_none q); omega) (by rw [List.length_take]; have := hpc; omega) pf_end (by rw [fm_len Pc.cells 10 Pc.cells_len]) (fun v _ h => by exact (RowAt.slice Pc.cells_len h.2.1 hpc 0 i)) (fun u hu => one_rows Pc.cells_one hu) (by simp only [maxLen]; (simp only [List.length_append, List.length_drop, List.length_take, List.length_nil, List.length_cons]; omega)) (by (simp only [List.length_append, List.length_drop, List.length_take, List.length_nil, List.length_cons]; omega)) rfl fun sv10 Hr10 hr10 => ?_
     refine ok_perm List.perm_append_comm ?_
     have hq10 : SRow 47 10 sv10 (List.length ((([] : List Pc) ++ (List.drop i p)) ++ (List.take i p))) (List.flatMap Pc.cells ((([] : List Pc) ++ (List.drop i p)) ++ (List.take i p))) Hr10 := by rw [List.length_append, List.flatMap_append]; exact hr10
     refine ops_nil (fin_inv rfl (any_next (fun _ a b => ⟨satNil a, b.2⟩) ?_))
     refine any_one 14 rfl (by kernel_rfl) ?_
     refine ops_appendR (news := List.flatMap Pc.cells [x1]) elt_pc hq10 rfl rfl (fun q => by cases q) (by simp) pf_end (by rw [fm_len Pc.cells 10 Pc.cells_len]; rfl) (fun v _ h => by exact h.1) (fun u hu => one_rows Pc.cells_one hu) (by simp only [maxLen]; (simp only [List.length_append, List.length_drop, List.length_take, List.length_nil, List.length_cons]; omega)) (by (simp only [List.length_append, List.length_drop, List.length_take, List.length_nil, List.length_cons]; omega)) rfl fun sv11 Hr11 hr11 => ?_
     refine ok_perm List.perm_append_comm ?_
     have hq11 : SRow 47 10 sv11 (List.length (((([] : List Pc) ++ (List.drop i p)) ++ (List.take i p)) ++ [x1])) (List.flatMap Pc.cells (((([] : List Pc) ++ (List.drop i p)) ++ (List.take i p)) ++ [x1])) Hr11 := by rw [List.length_append, List.flatMap_append]; exact hr11
     refine ops_nil (fin_inv rfl (any_next (fun _ a b => ⟨satNil a, b.2⟩) ?_))
     refine any_sq 0 [15] (by kernel_rfl) (fun _ a b => ⟨satNil a, b.2⟩) ?_
     refine sq_val rfl (yld_assign rfl) rfl ?_
     refine sq_nil ?_
     refine any_done (by kernel_rfl) ?_
     refine fin_end rfl ?_
     exact mid_done ⟨(sv11, Hr11), hq11⟩ ⟨rfl, rfl, rfl, rfl, trivial⟩ pf_end (fun v _ h => by exact ⟨h.2.1, h.2.2.1, trivial⟩)
   ·
    rintro ⟨⟨sv_Rpc, H_Rpc⟩, hr_Rpc⟩
    dsimp only at hr_Rpc ⊢
    refine ok_fr [(0, .slice pad (List.length p) pcap), (4, .bool false), (5, .int .i64 (i : Int)), (6, sv_Rpc)] ⟨rfl, rfl, rfl, rfl, trivial⟩ ?_
    refine fin_next rfl (run_seq (run_seq (run_region (ops_val (yld_move rfl) rfl (ops_val (yld_lenRow hr_Rpc Tryz.runUnderlying22 rfl) rfl ?_)))))
    refine ops_val (yld_move rfl) rfl (ops_nil (fin_next rfl (run_block ?_)))
    have hT0 : SRow 47 10 sv_Rpc (List.length (nfL 0 (turnL p i x1))) (List.flatMap Pc.cells (nfL 0 (turnL p i x1))) H_Rpc := by have q := hr_Rpc; rw [nfL_zero]; exact q
    have htl : List.length (turnL p i x1) = List.length p + 1 := by unfold turnL; simp only [List.length_append, List.length_drop, List.length_take, List.length_singleton]; omega
    refine ok_fr [(0, .slice pad (List.length p) pcap), (5, .int .i64 (i : Int)), (6, sv_Rpc), (49, .int .i64 ((List.length p + 1 : Nat) : Int)), (50, .int .i64 0)] ⟨rfl, rfl, rfl, (get_int rfl (by have := htl; simp only [List.nil_append, turnL] at this ⊢; omega)), rfl, trivial⟩ ?_
    refine ok_fr [(0, .slice pad (List.length p) pcap), (5, .int .i64 (i : Int)), (6, sv_Rpc), (49, .int .i64 ((List.length p + 1 : Nat) : Int)), (50, .int .i64 ((0 : Nat) : Int))] ⟨rfl, rfl, rfl, rfl, rfl, trivial⟩ ?_
    refine run_loop (ι := {y : Nat × Value × Hp // y.1 ≤ List.length p + 1 ∧ SRow 47 10 y.2.1 (List.length (nfL y.1 (turnL p i x1))) (List.flatMap Pc.cells (nfL y.1 (turnL p i x1))) y.2.2}) (fun y => [(0, .slice pad (List.length p) pcap), (5, .int .i64 (i : Int)), (6, y.1.2.1), (49, .int .i64 ((List.length p + 1 : Nat) : Int)), (50, .int .i64 (y.1.1 : Int))]) (fun y => (y.1.2.2)) (fun y => [rowF pad (List.flatMap Pc.cells p), tabN]) (fun y => List.length p + 1 - y.1.1) ⟨((0 : Nat), sv_Rpc, H_Rpc), Nat.zero_le _, hT0⟩ ?_
    rintro ⟨⟨k, sv_Rpc, H_Rpc⟩, hk, hr_Rpc⟩
    dsimp only at hk hr_Rpc ⊢
    refine ok_fr [(0, .slice pad (List.length p) pcap), (5, .int .i64 (i : Int)), (6, sv_Rpc), (49, .int .i64 ((List.length p + 1 : Nat) : Int)), (50, .int .i64 (k : Int))] ⟨rfl, rfl, rfl, rfl, rfl, trivial⟩ ?_
    refine run_seq (run_region (ops_valB (yld_lss rfl rfl) rfl fun r2 hr2 => ?_))
    refine ops_nil (fin_next rfl (run_seq ?_))
    cases r2
    ·
     replace hr2 := of_decide_eq_false hr2
     rw [nfL_end (by omega)] at hr_Rpc
     have hTsm := turn_sm (i := i) hmx1 hsm
     obtain ⟨hS1, hS2⟩ := turn_sub (i := i) hmx1
     have hTl : List.length (List.map Pc.nf (turnL p i x1)) = List.length p + 1 := by rw [List.length_map, htl]
     generalize List.map Pc.nf (turnL p i x1) = T at *
     refine ok_giveRowN hr_Rpc pf_end fun tad tcap htad hctad hmtad hztad => ?_
     subst htad
     refine run_cond_f rfl (run_exit rfl (fin_next rfl (run_seq (run_seq (run_region (ops_val (yld_move rfl) rfl (ops_call (check_c p pad pcap (by omega) hsm) rfl pf_nil (fun v _ h => by exact ⟨h.2.1, h.2.2.1, trivial⟩) rfl fun _ => ?_)))))))
     refine ops_valB (yld_neq rfl rfl) rfl fun r3 hr3 => ?_
     refine ops_val (yld_move rfl) rfl ?_
     cases r3
     ·
      replace hr3 := eq_of_bne hr3
      have hck := hr3
      refine ops_yes rfl rfl (ops_val (yld_move rfl) rfl (ops_yes rfl rfl (ops_call (check_c T tad tcap (by omega) hTsm) rfl pf_nil (fun v _ h => by exact ⟨h.1, h.2.2.1, trivial⟩) rfl fun _ => ?_)))
      refine ops_yes rfl rfl (ops_valB (yld_neq rfl rfl) rfl fun r4 hr4 => ?_)
      refine ops_val (yld_pick_f rfl rfl) rfl ?_
      refine ops_nil (fin_next rfl ?_)
      cases r4
      ·
       replace hr4 := eq_of_bne hr4
       have hckT := hr4
       refine run_cond_f rfl (run_skip (fin_next rfl (run_seq (run_region (ops_val (yld_move rfl) rfl (ops_call (all_c p pad pcap 1073741824 hsm (by omega)) rfl pf_nil (fun v _ h => by exact ⟨h.2.1, h.2.2.1, trivial⟩) rfl fun ⟨⟨c1, e1⟩, hA1⟩ => ?_))))))
       dsimp only
       dsimp only at hA1
       refine ops_val (yld_move rfl) rfl (ops_val (yld_extract rfl rfl) rfl ?_)
       refine ops_val (yld_extract rfl rfl) rfl ?_
       refine ops_alloc Tryz.zeroValue28 rfl fun b7 => ?_
       refine ops_store 0 Tryz.sizeOf28 rfl rfl rfl rfl rfl rfl ?_
       refine ops_val (yld_assign rfl) rfl (ops_nil (fin_next rfl (run_seq (run_region (ops_val (yld_move rfl) rfl (ops_call (all_c T tad tcap 1073741824 hTsm (by omega)) rfl pf_nil (fun v _ h => by exact ⟨h.2.2.1, h.2.2.2.2.1, trivial⟩) rfl fun ⟨⟨c2, e2⟩, hA2⟩ => ?_))))))
       dsimp only
       dsimp only at hA2
       refine ops_val (yld_move rfl) rfl (ops_val (yld_extract rfl rfl) rfl ?_)
       refine ops_val (yld_extract rfl rfl) rfl ?_
       refine ops_alloc Tryz.zeroValue28 rfl fun b8 => ?_
       refine ops_store 0 Tryz.sizeOf28 rfl rfl rfl rfl rfl rfl ?_
       refine ops_val (yld_assign rfl) rfl (ops_nil (fin_next rfl (run_seq ?_)))
       refine run_cut (ι := {y : Nat × Cl × Int // AllR (List.take i p ++ List.drop (i + 1) p) 1073741824 y.2.1 y.2.2}) (fun y => [(0, .slice pad (List.length p) pcap), (5, .int .i64 (i : Int)), (6, .slice tad (List.length T) tcap), (49, .int .i64 ((List.length p + 1 : Nat) : Int)), (50, .int .i64 (k : Int)), (8, .pointer (some ⟨b7, 0, none⟩)), (9, .int .i64 e1), (10, .pointer (some ⟨b8, 0, none⟩)), (11, .int .i64 e2), (12, .pointer (some ⟨y.1.1, 0, none⟩)), (13, .int .i64 y.1.2.2)]) (fun y => ((b7, .cells #[.slice (Cl.aad c1) (List.length (Cl.atoms c1)) (Cl.acap c1), .slice (Cl.fad c1) (List.length (Cl.facts c1)) (Cl.fcap c1)] 28 (0, 0)) :: ((b8, .cells #[.slice (Cl.aad c2) (List.length (Cl.atoms c2)) (Cl.acap c2), .slice (Cl.fad c2) (List.length (Cl.facts c2)) (Cl.fcap c2)] 28 (0, 0)) :: ((y.1.1, .cells #[.slice (Cl.aad y.1.2.1) (List.length (Cl.atoms y.1.2.1)) (Cl.acap y.1.2.1), .slice (Cl.fad y.1.2.1) (List.length (Cl.facts y.1.2.1)) (Cl.fcap y.1.2.1)] 28 (0, 0)) :: [])))) (fun y => [rowF (Cl.aad y.1.2.1) (List.flatMap strC (Cl.atoms y.1.2.1)), rowF (Cl.fad y.1.2.1) (List.flatMap Fc.cells (Cl.facts y.1.2.1)), rowF (Cl.aad c2) (List.flatMap strC (Cl.atoms c2)), rowF (Cl.fad c2) (List.flatMap Fc.cells (Cl.facts c2)), rowF (Cl.aad c1) (List.flatMap strC (Cl.atoms c1)), rowF (Cl.fad c1) (List.flatMap Fc.cells (Cl.facts c1)), rowF tad (List.flatMap Pc.cells T), rowF pad (List.flatMap Pc.cells p), tabN]) ?_ ?_
       ·
        refine run_drawH ((b8, .cells #[.slice (Cl.aad c2) (List.length (Cl.atoms c2)) (Cl.acap c2), .slice (Cl.fad c2) (List.length (Cl.facts c2)) (Cl.fcap c2)] 28 (0, 0)) :: ((b7, .cells #[.slice (Cl.aad c1) (List.length (Cl.atoms c1)) (Cl.acap c1), .slice (Cl.fad c1) (List.length (Cl.facts c1)) (Cl.fcap c1)] 28 (0, 0)) :: [])) (by kernel_rfl) ?_
        refine any_sq 10 [1, 2, 3, 5, 6, 7, 8] (by kernel_rfl) (fun _ a b => ⟨a, b⟩) ?_
        refine sq_val rfl (yld_move rfl) rfl ?_
        refine sq_val rfl (yld_move rfl) rfl ?_
        refine sq_val rfl (yld_eq (yld_sliceS (i := 0) (j := i) (kl := .i64) (kh := .i64) Tryz.runUnderlying22 Tryz.sizeOf47 rfl rfl rfl (by omega) (by have := hpc; omega)) (show _ = Value.slice (sad pad pcap 0 10) (List.length (List.take i p)) (pcap - 0) by rw [List.length_take, Nat.min_eq_left (by omega)]; rfl)) rfl ?_
        refine sq_val rfl (yld_move rfl) rfl ?_
        refine sq_val rfl (yld_move rfl) rfl ?_
        refine sq_val rfl (yld_eq (yld_arith rfl rfl rfl (wrap64 (by omega) (by omega))) (show Value.int .i64 ((i : Int) + 1) = Value.int .i64 ((i + 1 : Nat) : Int) from congrArg _ (by omega))) rfl ?_
        refine sq_val rfl (yld_eq (yld_sliceS (i := (i + 1 : Nat)) (j := List.length p) (kl := .i64) (kh := .i64) Tryz.runUnderlying22 Tryz.sizeOf47 rfl rfl rfl (by omega) (by have := hpc; omega)) (show _ = Value.slice (sad pad pcap (i + 1 : Nat) 10) (List.length (List.drop (i + 1 : Nat) p)) (pcap - (i + 1 : Nat)) by rw [List.length_drop])) rfl ?_
        refine sq_nil ?_
        refine any_two 0 14 rfl rfl (by kernel_rfl) ?_ ?_
        ·
         refine ops_slit0 Tryz.runUnderlying22 Tryz.sizeOf47 rfl fun b9 => ?_
         refine ok_perm pf_here ?_
         refine ops_nil (fin_inv rfl (any_next (fun _ a b => ⟨Vw.sat.sub (a.perm (pf_takeB (pf_app pf_here) pf_last)), b⟩) ?_))
         refine any_two 4 14 rfl rfl (by kernel_rfl) ?_ ?_
         ·
          refine ops_appendR (news := List.flatMap Pc.cells (List.take i p)) elt_pc (srow_new b9 47 10) rfl rfl (fun q => by have := hc3 (sad_none q); omega) (by rw [List.length_take]; have := hpc; omega) pf_hereO (by rw [fm_len Pc.cells 10 Pc.cells_len]) (fun v _ h => by exact (RowAt.slice Pc.cells_len h.2.2.2.2.2.1 hpc 0 i)) (fun u hu => one_rows Pc.cells_one hu) (by simp only [maxLen]; (simp only [List.length_append, List.length_drop, List.length_take, List.length_nil, List.length_cons]; omega)) (by (simp only [List.length_append, List.length_drop, List.length_take, List.length_nil, List.length_cons]; omega)) rfl fun sv12 Hr12 hr12 => ?_
          refine ok_perm List.perm_append_comm ?_
          have hq12 : SRow 47 10 sv12 (List.length (([] : List Pc) ++ (List.take i p))) (List.flatMap Pc.cells (([] : List Pc) ++ (List.take i p))) Hr12 := by rw [List.length_append, List.flatMap_append]; exact hr12
          refine ops_nil (fin_inv rfl (any_next (fun _ a b => ⟨Vw.sat.sub (a.perm (pf_takeB pf_here pf_here)), b⟩) ?_))
          refine any_two 9 14 rfl rfl (by kernel_rfl) ?_ ?_
          ·
           refine ops_appendR (news := List.flatMap Pc.cells (List.drop (i + 1 : Nat) p)) elt_pc hq12 rfl rfl (fun q => by have := hc3 (sad_none q); omega) (by rw [List.length_drop]; have := hpc; omega) (pf_cons pf_lastB) (by rw [fm_len Pc.cells 10 Pc.cells_len]) (fun v _ h => by exact (RowAt.rest Pc.cells_len h.2.2.2.2.2.1 hpc (i + 1 : Nat))) (fun u hu => one_rows Pc.cells_one hu) (by simp only [maxLen]; (simp only [List.length_append, List.length_drop, List.length_take, List.length_nil, List.length_cons]; omega)) (by (simp only [List.length_append, List.length_drop, List.length_take, List.length_nil, List.length_cons]; omega)) rfl fun sv13 Hr13 hr13 => ?_
           refine ok_perm List.perm_append_comm ?_
           have hq13 : SRow 47 10 sv13 (List.length ((([] : List Pc) ++ (List.take i p)) ++ (List.drop (i + 1 : Nat) p))) (List.flatMap Pc.cells ((([] : List Pc) ++ (List.take i p)) ++ (List.drop (i + 1 : Nat) p))) Hr13 := by rw [List.length_append, List.flatMap_append]; exact hr13
           refine ops_nil (fin_inv rfl (any_next (fun _ a b => ⟨Vw.sat.sub (a.perm (pf_takeB pf_here pf_here)), b⟩) ?_))
           refine any_two 10 14 rfl rfl (by kernel_rfl) ?_ ?_
           ·
            refine ok_giveRowN hq13 (pf_cons pf_lastB) fun qad qcap hqad hcqad hmqad hzqad => ?_
            subst hqad
            refine ops_call (all_c ((([] : List Pc) ++ (List.take i p)) ++ (List.drop (i + 1 : Nat) p)) qad qcap 1073741824 (fun y hy => hsm y (drop_one y (by simpa using hy))) (by simp only [List.length_append, List.length_take, List.length_drop, List.length_nil]; omega)) rfl pf_nil (fun v _ h => by exact ⟨h.1, h.2.2.2.2.2.2.2.1, trivial⟩) rfl fun ⟨⟨c3, e3⟩, hA3⟩ => ?_
            dsimp only
            dsimp only at hA3
            refine ops_nil (fin_inv rfl (any_next (fun _ a b => ⟨a, b.2.2.2⟩) ?_))
            refine any_sq 3 [11, 12, 13] (by kernel_rfl) (fun _ a b => ⟨a, b.2.2.2⟩) ?_
            refine sq_val rfl (yld_move rfl) rfl ?_
            refine sq_val rfl (yld_extract rfl rfl) rfl ?_
            refine sq_val rfl (yld_extract rfl rfl) rfl ?_
            refine sq_nil ?_
            refine any_one 14 rfl (by kernel_rfl) ?_
            refine ops_alloc Tryz.zeroValue28 rfl fun b10 => ?_
            refine ops_nil (fin_inv rfl (any_next (fun _ a b => ⟨a.tail, b.2.2.2⟩) ?_))
            refine any_one 15 rfl (by kernel_rfl) ?_
            refine ops_store 0 Tryz.sizeOf28 rfl rfl rfl rfl rfl rfl ?_
            refine ops_nil (fin_inv rfl (any_next (fun _ a b => ⟨a.tail, b.2.2.2⟩) ?_))
            refine any_sq 0 [16] (by kernel_rfl) (fun _ a b => ⟨a.tail, b.2.2.2⟩) ?_
            refine sq_val rfl (yld_assign rfl) rfl ?_
            refine sq_nil ?_
            refine any_done (by kernel_rfl) ?_
            refine fin_end rfl ?_
            exact mid_done ⟨(b10, c3, e3), hA3⟩ ⟨rfl, rfl, rfl, rfl, rfl, rfl, rfl, rfl, rfl, rfl, rfl, trivial⟩ (pf_takeB (pf_cons (pf_cons pf_here)) (pf_takeB (pf_cons pf_here) pf_here)) (fun v _ h => by exact ⟨h.1, h.2.1, h.2.2.2.1, h.2.2.2.2.1, h.2.2.2.2.2.1, h.2.2.2.2.2.2.1, h.2.2.2.2.2.2.2.1, h.2.2.2.2.2.2.2.2.1, h.2.2.2.2.2.2.2.2.2.1, trivial⟩)
           ·
            refine ops_alloc Tryz.zeroValue28 rfl fun b11 => ?_
            refine ops_nil (fin_inv rfl (any_next (fun _ a b => ⟨Vw.sat.sub (a.perm (pf_takeB (pf_cons pf_here) (pf_cons pf_here))), b⟩) ?_))
            refine any_one 10 rfl (by kernel_rfl) ?_
            refine ok_giveRowN hq13 (pf_cons (pf_cons pf_lastB)) fun qad qcap hqad hcqad hmqad hzqad => ?_
            subst hqad
            refine ops_call (all_c ((([] : List Pc) ++ (List.take i p)) ++ (List.drop (i + 1 : Nat) p)) qad qcap 1073741824 (fun y hy => hsm y (drop_one y (by simpa using hy))) (by simp only [List.length_append, List.length_take, List.length_drop, List.length_nil]; omega)) rfl pf_nil (fun v _ h => by exact ⟨h.1, h.2.2.2.2.2.2.2.1, trivial⟩) rfl fun ⟨⟨c3, e3⟩, hA3⟩ => ?_
            dsimp only
            dsimp only at hA3
            refine ops_nil (fin_inv rfl (any_next (fun _ a b => ⟨a.tail, b.2.2.2⟩) ?_))
            refine any_sq 2 [11, 12, 13] (by kernel_rfl) (fun _ a b => ⟨a.tail, b.2.2.2⟩) ?_
            refine sq_val rfl (yld_move rfl) rfl ?_
            refine sq_val rfl (yld_extract rfl rfl) rfl ?_
            refine sq_val rfl (yld_extract rfl rfl) rfl ?_
            refine sq_nil ?_
            refine any_one 15 rfl (by kernel_rfl) ?_
            refine ops_store 0 Tryz.sizeOf28 rfl rfl rfl rfl rfl rfl ?_
            refine ops_nil (fin_inv rfl (any_next (fun _ a b => ⟨a.tail, b.2.2.2⟩) ?_))
            refine any_sq 0 [16] (by kernel_rfl) (fun _ a b => ⟨a.tail, b.2.2.2⟩) ?_
            refine sq_val rfl (yld_assign rfl) rfl ?_
            refine sq_nil ?_
            refine any_done (by kernel_rfl) ?_
            refine fin_end rfl ?_
            exact mid_done ⟨(b11, c3, e3), hA3⟩ ⟨rfl, rfl, rfl, rfl, rfl, rfl, rfl, rfl, rfl, rfl, rfl, trivial⟩ (pf_takeB (pf_cons (pf_cons pf_here)) (pf_takeB (pf_cons pf_here) pf_here)) (fun v _ h => by exact ⟨h.1, h.2.1, h.2.2.2.1, h.2.2.2.2.1, h.2.2.2.2.2.1, h.2.2.2.2.2.2.1, h.2.2.2.2.2.2.2.1, h.2.2.2.2.2.2.2.2.1, h.2.2.2.2.2.2.2.2.2.1, trivial⟩)
          ·
           refine ops_alloc Tryz.zeroValue28 rfl fun b12 => ?_
           refine ops_nil (fin_inv rfl (any_next (fun _ a b => ⟨Vw.sat.sub (a.perm (pf_takeB (pf_cons pf_here) (pf_cons pf_here))), b⟩) ?_))
           refine any_one 9 rfl (by kernel_rfl) ?_
           refine ops_appendR (news := List.flatMap Pc.cells (List.drop (i + 1 : Nat) p)) elt_pc hq12 rfl rfl (fun q => by have := hc3 (sad_none q); omega) (by rw [List.length_drop]; have := hpc; omega) (pf_cons (pf_cons pf_lastB)) (by rw [fm_len Pc.cells 10 Pc.cells_len]) (fun v _ h => by exact (RowAt.rest Pc.cells_len h.2.2.2.2.2.1 hpc (i + 1 : Nat))) (fun u hu => one_rows Pc.cells_one hu) (by simp only [maxLen]; (simp only [List.length_append, List.length_drop, List.length_take, List.length_nil, List.length_cons]; omega)) (by (simp only [List.length_append, List.length_drop, List.length_take, List.length_nil, List.length_cons]; omega)) rfl fun sv14 Hr14 hr14 => ?_
           refine ok_perm List.perm_append_comm ?_
           have hq14 : SRow 47 10 sv14 (List.length ((([] : List Pc) ++ (List.take i p)) ++ (List.drop (i + 1 : Nat) p))) (List.flatMap Pc.cells ((([] : List Pc) ++ (List.take i p)) ++ (List.drop (i + 1 : Nat) p))) Hr14 := by rw [List.length_append, List.flatMap_append]; exact hr14
           refine ops_nil (fin_inv rfl (any_next (fun _ a b => ⟨Vw.sat.sub (a.perm (pf_takeB (pf_cons pf_here) (pf_cons pf_here))), b⟩) ?_))
           refine any_one 10 rfl (by kernel_rfl) ?_
           refine ok_giveRowN hq14 (pf_cons (pf_cons pf_lastB)) fun qad qcap hqad hcqad hmqad hzqad => ?_
           subst hqad
           refine ops_call (all_c ((([] : List Pc) ++ (List.take i p)) ++ (List.drop (i + 1 : Nat) p)) qad qcap 1073741824 (fun y hy => hsm y (drop_one y (by simpa using hy))) (by simp only [List.length_append, List.length_take, List.length_drop, List.length_nil]; omega)) rfl pf_nil (fun v _ h => by exact ⟨h.1, h.2.2.2.2.2.2.2.1, trivial⟩) rfl fun ⟨⟨c3, e3⟩, hA3⟩ => ?_
           dsimp only
           dsimp only at hA3
           refine ops_nil (fin_inv rfl (any_next (fun _ a b => ⟨a.tail, b.2.2.2⟩) ?_))
           refine any_sq 2 [11, 12, 13] (by kernel_rfl) (fun _ a b => ⟨a.tail, b.2.2.2⟩) ?_
           refine sq_val rfl (yld_move rfl) rfl ?_
           refine sq_val rfl (yld_extract rfl rfl) rfl ?_
           refine sq_val rfl (yld_extract rfl rfl) rfl ?_
           refine sq_nil ?_
           refine any_one 15 rfl (by kernel_rfl) ?_
           refine ops_store 0 Tryz.sizeOf28 rfl rfl rfl rfl rfl rfl ?_
           refine ops_nil (fin_inv rfl (any_next (fun _ a b => ⟨a.tail, b.2.2.2⟩) ?_))
           refine any_sq 0 [16] (by kernel_rfl) (fun _ a b => ⟨a.tail, b.2.2.2⟩) ?_
           refine sq_val rfl (yld_assign rfl) rfl ?_
           refine sq_nil ?_
           refine any_done (by kernel_rfl) ?_
           refine fin_end rfl ?_
           exact mid_done ⟨(b12, c3, e3), hA3⟩ ⟨rfl, rfl, rfl, rfl, rfl, rfl, rfl, rfl, rfl, rfl, rfl, trivial⟩ (pf_takeB (pf_cons (pf_cons pf_here)) (pf_takeB (pf_cons pf_here) pf_here)) (fun v _ h => by exact ⟨h.1, h.2.1, h.2.2.2.1, h.2.2.2.2.1, h.2.2.2.2.2.1, h.2.2.2.2.2.2.1, h.2.2.2.2.2.2.2.1, h.2.2.2.2.2.2.2.2.1, h.2.2.2.2.2.2.2.2.2.1, trivial⟩)
         ·
          refine ops_alloc Tryz.zeroValue28 rfl fun b13 => ?_
          refine ops_nil (fin_inv rfl (any_next (fun _ a b => ⟨Vw.sat.sub (a.perm (pf_takeB (pf_cons (pf_app pf_here)) (pf_cons pf_last))), b⟩) ?_))
          refine any_one 4 rfl (by kernel_rfl) ?_
          refine ops_appendR (news := List.flatMap Pc.cells (List.take i p)) elt_pc (srow_new b9 47 10) rfl rfl (fun q => by have := hc3 (sad_none q); omega) (by rw [List.length_take]; have := hpc; omega) (pf_cons pf_hereO) (by rw [fm_len Pc.cells 10 Pc.cells_len]) (fun v _ h => by exact (RowAt.slice Pc.cells_len h.2.2.2.2.2.1 hpc 0 i)) (fun u hu => one_rows Pc.cells_one hu) (by simp only [maxLen]; (simp only [List.length_append, List.length_drop, List.length_take, List.length_nil, List.length_cons]; omega)) (by (simp only [List.length_append, List.length_drop, List.length_take, List.length_nil, List.length_cons]; omega)) rfl fun sv15 Hr15 hr15 => ?_
          refine ok_perm List.perm_append_comm ?_
          have hq15 : SRow 47 10 sv15 (List.length (([] : List Pc) ++ (List.take i p))) (List.flatMap Pc.cells (([] : List Pc) ++ (List.take i p))) Hr15 := by rw [List.length_append, List.flatMap_append]; exact hr15
          refine ops_nil (fin_inv rfl (any_next (fun _ a b => ⟨Vw.sat.sub (a.perm (pf_takeB (pf_cons pf_here) (pf_cons pf_here))), b⟩) ?_))
          refine any_one 9 rfl (by kernel_rfl) ?_
          refine ops_appendR (news := List.flatMap Pc.cells (List.drop (i + 1 : Nat) p)) elt_pc hq15 rfl rfl (fun q => by have := hc3 (sad_none q); omega) (by rw [List.length_drop]; have := hpc; omega) (pf_cons (pf_cons pf_lastB)) (by rw [fm_len Pc.cells 10 Pc.cells_len]) (fun v _ h => by exact (RowAt.rest Pc.cells_len h.2.2.2.2.2.1 hpc (i + 1 : Nat))) (fun u hu => one_rows Pc.cells_one hu) (by simp only [maxLen]; (simp only [List.length_append, List.length_drop, List.length_take, List.length_nil, List.length_cons]; omega)) (by (simp only [List.length_append, List.length_drop, List.length_take, List.length_nil, List.length_cons]; omega)) rfl fun sv16 Hr16 hr16 => ?_
          refine ok_perm List.perm_append_comm ?_
          have hq16 : SRow 47 10 sv16 (List.length ((([] : List Pc) ++ (List.take i p)) ++ (List.drop (i + 1 : Nat) p))) (List.flatMap Pc.cells ((([] : List Pc) ++ (List.take i p)) ++ (List.drop (i + 1 : Nat) p))) Hr16 := by rw [List.length_append, List.flatMap_append]; exact hr16
          refine ops_nil (fin_inv rfl (any_next (fun _ a b => ⟨Vw.sat.sub (a.perm (pf_takeB (pf_cons pf_here) (pf_cons pf_here))), b⟩) ?_))
          refine any_one 10 rfl (by kernel_rfl) ?_
          refine ok_giveRowN hq16 (pf_cons (pf_cons pf_lastB)) fun qad qcap hqad hcqad hmqad hzqad => ?_
          subst hqad
          refine ops_call (all_c ((([] : List Pc) ++ (List.take i p)) ++ (List.drop (i + 1 : Nat) p)) qad qcap 1073741824 (fun y hy => hsm y (drop_one y (by simpa using hy))) (by simp only [List.length_append, List.length_take, List.length_drop, List.length_nil]; omega)) rfl pf_nil (fun v _ h => by exact ⟨h.1, h.2.2.2.2.2.2.2.1, trivial⟩) rfl fun ⟨⟨c3, e3⟩, hA3⟩ => ?_
          dsimp only
          dsimp only at hA3
          refine ops_nil (fin_inv rfl (any_next (fun _ a b => ⟨a.tail, b.2.2.2⟩) ?_))
          refine any_sq 2 [11, 12, 13] (by kernel_rfl) (fun _ a b => ⟨a.tail, b.2.2.2⟩) ?_
          refine sq_val rfl (yld_move rfl) rfl ?_
          refine sq_val rfl (yld_extract rfl rfl) rfl ?_
          refine sq_val rfl (yld_extract rfl rfl) rfl ?_
          refine sq_nil ?_
          refine any_one 15 rfl (by kernel_rfl) ?_
          refine ops_store 0 Tryz.sizeOf28 rfl rfl rfl rfl rfl rfl ?_
          refine ops_nil (fin_inv rfl (any_next (fun _ a b => ⟨a.tail, b.2.2.2⟩) ?_))
          refine any_sq 0 [16] (by kernel_rfl) (fun _ a b => ⟨a.tail, b.2.2.2⟩) ?_
          refine sq_val rfl (yld_assign rfl) rfl ?_
          refine sq_nil ?_
          refine any_done (by kernel_rfl) ?_
          refine fin_end rfl ?_
          exact mid_done ⟨(b13, c3, e3), hA3⟩ ⟨rfl, rfl, rfl, rfl, rfl, rfl, rfl, rfl, rfl, rfl, rfl, trivial⟩ (pf_takeB (pf_cons (pf_cons pf_here)) (pf_takeB (pf_cons pf_here) pf_here)) (fun v _ h => by exact ⟨h.1, h.2.1, h.2.2.2.1, h.2.2.2.2.1, h.2.2.2.2.2.1, h.2.2.2.2.2.2.1, h.2.2.2.2.2.2.2.1, h.2.2.2.2.2.2.2.2.1, h.2.2.2.2.2.2.2.2.2.1, trivial⟩)
        ·
         refine ops_alloc Tryz.zeroValue28 rfl fun b14 => ?_
         refine ops_nil (fin_inv rfl (any_next (fun _ a b => ⟨a.tail, b⟩) ?_))
         refine any_one 0 rfl (by kernel_rfl) ?_
         refine ops_slit0 Tryz.runUnderlying22 Tryz.sizeOf47 rfl fun b15 => ?_
         refine ok_perm pf_here ?_
         refine ops_nil (fin_inv rfl (any_next (fun _ a b => ⟨Vw.sat.sub (a.perm (pf_takeB (pf_app (pf_cons pf_here)) (pf_app (pf_cons pf_here)))), b⟩) ?_))
         refine any_one 4 rfl (by kernel_rfl) ?_
         refine ops_appendR (news := List.flatMap Pc.cells (List.take i p)) elt_pc (srow_new b15 47 10) rfl rfl (fun q => by have := hc3 (sad_none q); omega) (by rw [List.length_take]; have := hpc; omega) pf_hereO (by rw [fm_len Pc.cells 10 Pc.cells_len]) (fun v _ h => by exact (RowAt.slice Pc.cells_len h.2.2.2.2.2.1 hpc 0 i)) (fun u hu => one_rows Pc.cells_one hu) (by simp only [maxLen]; (simp only [List.length_append, List.length_drop, List.length_take, List.length_nil, List.length_cons]; omega)) (by (simp only [List.length_append, List.length_drop, List.length_take, List.length_nil, List.length_cons]; omega)) rfl fun sv17 Hr17 hr17 => ?_
         refine ok_perm List.perm_append_comm ?_
         have hq17 : SRow 47 10 sv17 (List.length (([] : List Pc) ++ (List.take i p))) (List.flatMap Pc.cells (([] : List Pc) ++ (List.take i p))) Hr17 := by rw [List.length_append, List.flatMap_append]; exact hr17
         refine ops_nil (fin_inv rfl (any_next (fun _ a b => ⟨Vw.sat.sub (a.perm (pf_takeB (pf_cons pf_here) (pf_cons pf_here))), b⟩) ?_))
         refine any_one 9 rfl (by kernel_rfl) ?_
         refine ops_appendR (news := List.flatMap Pc.cells (List.drop (i + 1 : Nat) p)) elt_pc hq17 rfl rfl (fun q => by have := hc3 (sad_none q); omega) (by rw [List.length_drop]; have := hpc; omega) (pf_cons (pf_cons pf_lastB)) (by rw [fm_len Pc.cells 10 Pc.cells_len]) (fun v _ h => by exact (RowAt.rest Pc.cells_len h.2.2.2.2.2.1 hpc (i + 1 : Nat))) (fun u hu => one_rows Pc.cells_one hu) (by simp only [maxLen]; (simp only [List.length_append, List.length_drop, List.length_take, List.length_nil, List.length_cons]; omega)) (by (simp only [List.length_append, List.length_drop, List.length_take, List.length_nil, List.length_cons]; omega)) rfl fun sv18 Hr18 hr18 => ?_
         refine ok_perm List.perm_append_comm ?_
         have hq18 : SRow 47 10 sv18 (List.length ((([] : List Pc) ++ (List.take i p)) ++ (List.drop (i + 1 : Nat) p))) (List.flatMap Pc.cells ((([] : List Pc) ++ (List.take i p)) ++ (List.drop (i + 1 : Nat) p))) Hr18 := by rw [List.length_append, List.flatMap_append]; exact hr18
         refine ops_nil (fin_inv rfl (any_next (fun _ a b => ⟨Vw.sat.sub (a.perm (pf_takeB (pf_cons pf_here) (pf_cons pf_here))), b⟩) ?_))
         refine any_one 10 rfl (by kernel_rfl) ?_
         refine ok_giveRowN hq18 (pf_cons (pf_cons pf_lastB)) fun qad qcap hqad hcqad hmqad hzqad => ?_
         subst hqad
         refine ops_call (all_c ((([] : List Pc) ++ (List.take i p)) ++ (List.drop (i + 1 : Nat) p)) qad qcap 1073741824 (fun y hy => hsm y (drop_one y (by simpa using hy))) (by simp only [List.length_append, List.length_take, List.length_drop, List.length_nil]; omega)) rfl pf_nil (fun v _ h => by exact ⟨h.1, h.2.2.2.2.2.2.2.1, trivial⟩) rfl fun ⟨⟨c3, e3⟩, hA3⟩ => ?_
         dsimp only
         dsimp only at hA3
         refine ops_nil (fin_inv rfl (any_next (fun _ a b => ⟨a.tail, b.2.2.2⟩) ?_))
         refine any_sq 2 [11, 12, 13] (by kernel_rfl) (fun _ a b => ⟨a.tail, b.2.2.2⟩) ?_
         refine sq_val rfl (yld_move rfl) rfl ?_
         refine sq_val rfl (yld_extract rfl rfl) rfl ?_
         refine sq_val rfl (yld_extract rfl rfl) rfl ?_
         refine sq_nil ?_
         refine any_one 15 rfl (by kernel_rfl) ?_
         refine ops_store 0 Tryz.sizeOf28 rfl rfl rfl rfl rfl rfl ?_
         refine ops_nil (fin_inv rfl (any_next (fun _ a b => ⟨a.tail, b.2.2.2⟩) ?_))
         refine any_sq 0 [16] (by kernel_rfl) (fun _ a b => ⟨a.tail, b.2.2.2⟩) ?_
         refine sq_val rfl (yld_assign rfl) rfl ?_
         refine sq_nil ?_
         refine any_done (by kernel_rfl) ?_
         refine fin_end rfl ?_
         exact mid_done ⟨(b14, c3, e3), hA3⟩ ⟨rfl, rfl, rfl, rfl, rfl, rfl, rfl, rfl, rfl, rfl, rfl, trivial⟩ (pf_takeB (pf_cons (pf_cons pf_here)) (pf_takeB (pf_cons pf_here) pf_here)) (fun v _ h => by exact ⟨h.1, h.2.1, h.2.2.2.1, h.2.2.2.2.1, h.2.2.2.2.2.1, h.2.2.2.2.2.2.1, h.2.2.2.2.2.2.2.1, h.2.2.2.2.2.2.2.2.1, h.2.2.2.2.2.2.2.2.2.1, trivial⟩)
       ·
        rintro ⟨⟨z16_14, c3, e3⟩, hA3⟩
        dsimp only at hA3 ⊢
        refine ok_fr [(0, .slice pad (List.length p) pcap), (5, .int .i64 (i : Int)), (6, .slice tad (List.length T) tcap), (49, .int .i64 ((List.length p + 1 : Nat) : Int)), (50, .int .i64 (k : Int)), (8, .pointer (some ⟨b7, 0, none⟩)), (9, .int .i64 e1), (10, .pointer (some ⟨b8, 0, none⟩)), (11, .int .i64 e2), (12, .pointer (some ⟨z16_14, 0, none⟩)), (13, .int .i64 e3)] ⟨rfl, rfl, rfl, rfl, rfl, rfl, rfl, rfl, rfl, rfl, rfl, trivial⟩ ?_
        refine fin_next rfl (run_seq (run_seq ?_))
        obtain ⟨hs1, hs2, hs3⟩ := allR_same hS2 hS1 hA1 hA2 hck hckT (by decide) (by decide)
        have hl1 := hA1.len
        have hl2 := hA2.len
        have hl3 := hA3.len
        have hl0 : (List.take i p ++ List.drop (i + 1) p).length ≤ p.length := by rw [List.length_append, List.length_take, List.length_drop]; omega
        have hls : e1 = 0 → e3 = 0 ∧ ∀ y ∈ Cl.facts c3, y ∈ Cl.facts c1 := fun q => by subst q; exact allR_less drop_one hl0 hA1 hA3
        refine run_region (ops_val (yld_loadS 0 Tryz.isAgg28 Tryz.sizeOf28 rfl rfl rfl) rfl ?_)
        refine ops_val (yld_loadS 1 Tryz.isAgg28 Tryz.sizeOf28 rfl rfl rfl) rfl ?_
        refine ops_callB (sameC_c c1 c2 (by omega) (by omega) (by omega) (by omega)) rfl pf_nil (fun v _ h => by exact ⟨h.2.2.2.2.1, h.2.2.2.2.2.1, h.2.2.1, h.2.2.2.1, trivial⟩) rfl fun r5 hr5 => ?_
        refine ops_val (yld_not rfl) rfl ?_
        refine ops_val (yld_move rfl) rfl ?_
        cases r5
        ·
         simp at hr5
         simp [hs1, hs2] at hr5
        ·
         simp at hr5
         refine ops_yes rfl rfl (ops_val (yld_move rfl) rfl (ops_yes rfl rfl (ops_val (yld_move rfl) rfl (ops_yes rfl rfl (ops_valB (yld_neq rfl rfl) rfl fun r6 hr6 => ?_)))))
         refine ops_val (yld_pick_f rfl rfl) rfl ?_
         refine ops_val (yld_move rfl) rfl ?_
         cases r6
         ·
          replace hr6 := eq_of_bne hr6
          refine ops_yes rfl rfl (ops_val (yld_move rfl) rfl (ops_yes rfl rfl (ops_valB (yld_eql rfl rfl) rfl fun r7 hr7 => ?_)))
          refine ops_yes rfl rfl (ops_val (yld_move rfl) rfl ?_)
          cases r7
          ·
           replace hr7 := ne_of_beq_false hr7
           refine ops_no rfl rfl rfl rfl (ops_no rfl rfl rfl rfl (ops_yes rfl rfl (ops_val (yld_pick_f rfl rfl) rfl ?_)))
           refine ops_val (yld_pick_f rfl rfl) rfl ?_
           refine ops_nil (fin_next rfl (run_cond_f rfl (run_skip (fin_next rfl (run_seq (run_seq (run_region ?_)))))))
           refine ops_val (yld_field Tryz.runUnderlying28 rfl rfl rfl Tryz.sizeOf26) rfl ?_
           refine ops_val (yld_load 2 Tryz.isAgg26 rfl rfl rfl) rfl ?_
           refine ops_val (yld_lenS Tryz.runUnderlying26 rfl) rfl ?_
           refine ops_val (yld_move rfl) rfl (ops_nil (fin_next rfl (run_block (ok_fr [(8, .pointer (some ⟨b7, 0, none⟩)), (10, .pointer (some ⟨b8, 0, none⟩)), (12, .pointer (some ⟨z16_14, 0, none⟩)), (107, .pointer (some ⟨z16_14, 1, none⟩)), (9, .int .i64 e1), (108, .slice (Cl.fad c3) (List.length (Cl.facts c3)) (Cl.fcap c3)), (109, .int .i64 (List.length (Cl.facts c3) : Int)), (110, .int .i64 ((0 : Nat) : Int))] ⟨rfl, rfl, rfl, rfl, rfl, rfl, rfl, rfl, trivial⟩ ?_))))
           refine ok_weak (H' := ((b7, .cells #[.slice (Cl.aad c1) (List.length (Cl.atoms c1)) (Cl.acap c1), .slice (Cl.fad c1) (List.length (Cl.facts c1)) (Cl.fcap c1)] 28 (0, 0)) :: ((b8, .cells #[.slice (Cl.aad c2) (List.length (Cl.atoms c2)) (Cl.acap c2), .slice (Cl.fad c2) (List.length (Cl.facts c2)) (Cl.fcap c2)] 28 (0, 0)) :: ((z16_14, .cells #[.slice (Cl.aad c3) (List.length (Cl.atoms c3)) (Cl.acap c3), .slice (Cl.fad c3) (List.length (Cl.facts c3)) (Cl.fcap c3)] 28 (0, 0)) :: [])))) (Γ' := [rowF (Cl.aad c3) (List.flatMap strC (Cl.atoms c3)), rowF (Cl.fad c3) (List.flatMap Fc.cells (Cl.facts c3)), rowF (Cl.aad c2) (List.flatMap strC (Cl.atoms c2)), rowF (Cl.fad c2) (List.flatMap Fc.cells (Cl.facts c2)), rowF (Cl.aad c1) (List.flatMap strC (Cl.atoms c1)), rowF (Cl.fad c1) (List.flatMap Fc.cells (Cl.facts c1)), rowF tad (List.flatMap Pc.cells T), rowF pad (List.flatMap Pc.cells p), tabN]) (pf_takeB pf_here (pf_takeB pf_here pf_here)) (fun v _ h => by exact ⟨h.1, h.2.1, h.2.2.1, h.2.2.2.1, h.2.2.2.2.1, h.2.2.2.2.2.1, h.2.2.2.2.2.2.1, h.2.2.2.2.2.2.2.1, h.2.2.2.2.2.2.2.2.1, trivial⟩) ?_
           refine run_loop (ι := {y : Nat // y ≤ List.length (Cl.facts c3)}) (fun y => [(8, .pointer (some ⟨b7, 0, none⟩)), (10, .pointer (some ⟨b8, 0, none⟩)), (12, .pointer (some ⟨z16_14, 0, none⟩)), (107, .pointer (some ⟨z16_14, 1, none⟩)), (9, .int .i64 e1), (108, .slice (Cl.fad c3) (List.length (Cl.facts c3)) (Cl.fcap c3)), (109, .int .i64 (List.length (Cl.facts c3) : Int)), (110, .int .i64 (y.1 : Int))]) (fun y => ((b7, .cells #[.slice (Cl.aad c1) (List.length (Cl.atoms c1)) (Cl.acap c1), .slice (Cl.fad c1) (List.length (Cl.facts c1)) (Cl.fcap c1)] 28 (0, 0)) :: ((b8, .cells #[.slice (Cl.aad c2) (List.length (Cl.atoms c2)) (Cl.acap c2), .slice (Cl.fad c2) (List.length (Cl.facts c2)) (Cl.fcap c2)] 28 (0, 0)) :: ((z16_14, .cells #[.slice (Cl.aad c3) (List.length (Cl.atoms c3)) (Cl.acap c3), .slice (Cl.fad c3) (List.length (Cl.facts c3)) (Cl.fcap c3)] 28 (0, 0)) :: [])))) (fun y => [rowF (Cl.aad c3) (List.flatMap strC (Cl.atoms c3)), rowF (Cl.fad c3) (List.flatMap Fc.cells (Cl.facts c3)), rowF (Cl.aad c2) (List.flatMap strC (Cl.atoms c2)), rowF (Cl.fad c2) (List.flatMap Fc.cells (Cl.facts c2)), rowF (Cl.aad c1) (List.flatMap strC (Cl.atoms c1)), rowF (Cl.fad c1) (List.flatMap Fc.cells (Cl.facts c1)), rowF tad (List.flatMap Pc.cells T), rowF pad (List.flatMap Pc.cells p), tabN]) (fun y => List.length (Cl.facts c3) - y.1) ⟨(0 : Nat), Nat.zero_le _⟩ ?_
           rintro ⟨m, hm⟩
           dsimp only at hm ⊢
           refine ok_fr [(8, .pointer (some ⟨b7, 0, none⟩)), (10, .pointer (some ⟨b8, 0, none⟩)), (12, .pointer (some ⟨z16_14, 0, none⟩)), (107, .pointer (some ⟨z16_14, 1, none⟩)), (9, .int .i64 e1), (108, .slice (Cl.fad c3) (List.length (Cl.facts c3)) (Cl.fcap c3)), (109, .int .i64 (List.length (Cl.facts c3) : Int)), (110, .int .i64 (m : Int))] ⟨rfl, rfl, rfl, rfl, rfl, rfl, rfl, rfl, trivial⟩ ?_
           refine run_seq (run_region (ops_valB (yld_lss rfl rfl) rfl fun r8 hr8 => ?_))
           refine ops_nil (fin_next rfl (run_seq ?_))
           cases r8
           ·
            replace hr8 := of_decide_eq_false hr8
            refine run_cond_f rfl (run_exit rfl (fin_next rfl (run_seq (run_region (ops_val (yld_assign rfl) rfl (ops_nil (fin_next rfl ?_)))))))
            refine run_ret ?_
            exact ret1 Tryz.results6 () rfl pf_nil (fun _ _ _ => trivial)
           ·
            replace hr8 := of_decide_eq_true hr8
            have hlx3 : m < List.length (Cl.facts c3) := by omega
            obtain ⟨x3, hx3⟩ : ∃ e0, (Cl.facts c3)[m]? = some e0 := ⟨_, List.getElem?_eq_getElem hlx3⟩
            have hmx3 : x3 ∈ (Cl.facts c3) := List.mem_of_getElem? hx3
            refine run_cond_t rfl (run_skip (fin_next rfl (run_seq (run_block (run_seq (run_region (ops_val (yld_indexR Tryz.runUnderlying26 Tryz.sizeOf41 rfl rfl (fun v _ h => row_adr (n := 6) Fc.cells_len (by decide) (by exact h.2.1) hx3) (by omega) (by first | omega | (simp; done))) rfl ?_)))))))
            refine ops_val (yld_loadRS (ad := (Cl.fad c3)) (us := Fc.cells x3) Tryz.isAgg41 Tryz.sizeOf41 rfl (fun v _ h => by exact h.2.1) (Fc.cells_len _) (row_cells Fc.cells_len hx3)) rfl ?_
            refine ops_alloc Tryz.zeroValue41 rfl fun b16 => ?_
            refine ops_store 0 Tryz.sizeOf41 rfl rfl rfl rfl rfl rfl ?_
            refine ops_nil (fin_next rfl (run_seq (run_region (ops_val (yld_move rfl) rfl (ops_valB (yld_eql rfl rfl) rfl fun r9 hr9 => ?_)))))
            refine ops_val (yld_move rfl) rfl ?_
            cases r9
            ·
             replace hr9 := ne_of_beq_false hr9
             refine ops_no rfl rfl rfl rfl (ops_no rfl rfl rfl rfl (ops_no rfl rfl rfl rfl (ops_no rfl rfl rfl rfl (ops_no rfl rfl rfl rfl (ops_val (yld_pick_f rfl rfl) rfl ?_)))))
             refine ops_nil (fin_next rfl (run_cond_f rfl (run_skip (fin_next rfl (run_region (ops_val (yld_arith rfl rfl rfl (wrap64 (by omega) (by omega))) rfl ?_))))))
             refine ops_val (yld_move rfl) rfl (ops_nil (fin_inv rfl ?_))
             exact ok_again ⟨m + 1, hlx3⟩ (by dsimp only; omega) ⟨rfl, rfl, rfl, rfl, rfl, rfl, rfl, rfl, trivial⟩ (pf_takeB (pf_cons pf_here) (pf_takeB (pf_cons pf_here) (pf_cons pf_here))) (fun v _ h => by exact ⟨h.1, h.2.1, h.2.2.1, h.2.2.2.1, h.2.2.2.2.1, h.2.2.2.2.2.1, h.2.2.2.2.2.2.1, h.2.2.2.2.2.2.2.1, h.2.2.2.2.2.2.2.2.1, trivial⟩)
            ·
             replace hr9 := eq_of_beq hr9
             refine ops_yes rfl rfl (ops_val (yld_field Tryz.runUnderlying28 rfl rfl rfl Tryz.sizeOf26) rfl ?_)
             refine ops_yes rfl rfl (ops_val (yld_load 1 Tryz.isAgg26 rfl rfl rfl) rfl ?_)
             refine ops_yes rfl rfl (ops_val (yld_loadS 0 Tryz.isAgg41 Tryz.sizeOf41 rfl rfl rfl) rfl ?_)
             refine ops_yes rfl rfl (ops_callB (has_c (Cl.facts c1) (Cl.fad c1) (Cl.fcap c1) x3 (by omega) hA1.srt) rfl pf_nil (fun v _ h => by exact ⟨h.2.2.2.2.2.1, trivial⟩) rfl fun r10 hr10 => ?_)
             refine ops_yes rfl rfl (ops_val (yld_not rfl) rfl ?_)
             refine ops_val (yld_pick_t rfl rfl) rfl ?_
             refine ops_nil (fin_next rfl ?_)
             cases r10
             ·
              replace hr10 := dF hr10
              exact absurd ((hls (by assumption)).2 x3 hmx3) hr10
             ·
              replace hr10 := dT hr10
              refine run_cond_f rfl (run_skip (fin_next rfl (run_region (ops_val (yld_arith rfl rfl rfl (wrap64 (by omega) (by omega))) rfl ?_))))
              refine ops_val (yld_move rfl) rfl (ops_nil (fin_inv rfl ?_))
              exact ok_again ⟨m + 1, hlx3⟩ (by dsimp only; omega) ⟨rfl, rfl, rfl, rfl, rfl, rfl, rfl, rfl, trivial⟩ (pf_takeB (pf_cons pf_here) (pf_takeB (pf_cons pf_here) (pf_cons pf_here))) (fun v _ h => by exact ⟨h.1, h.2.1, h.2.2.1, h.2.2.2.1, h.2.2.2.2.1, h.2.2.2.2.2.1, h.2.2.2.2.2.2.1, h.2.2.2.2.2.2.2.1, h.2.2.2.2.2.2.2.2.1, trivial⟩)
          ·
           replace hr7 := eq_of_beq hr7
           refine ops_yes rfl rfl (ops_val (yld_move rfl) rfl (ops_yes rfl rfl (ops_valB (yld_neq rfl rfl) rfl fun r11 hr11 => ?_)))
           refine ops_yes rfl rfl (ops_val (yld_pick_t rfl rfl) rfl ?_)
           refine ops_val (yld_pick_f rfl rfl) rfl ?_
           refine ops_nil (fin_next rfl ?_)
           cases r11
           ·
            replace hr11 := eq_of_bne hr11
            refine run_cond_f rfl (run_skip (fin_next rfl (run_seq (run_seq (run_region (ops_val (yld_field Tryz.runUnderlying28 rfl rfl rfl Tryz.sizeOf26) rfl ?_))))))
            refine ops_val (yld_load 2 Tryz.isAgg26 rfl rfl rfl) rfl ?_
            refine ops_val (yld_lenS Tryz.runUnderlying26 rfl) rfl ?_
            refine ops_val (yld_move rfl) rfl (ops_nil (fin_next rfl (run_block (ok_fr [(8, .pointer (some ⟨b7, 0, none⟩)), (10, .pointer (some ⟨b8, 0, none⟩)), (12, .pointer (some ⟨z16_14, 0, none⟩)), (107, .pointer (some ⟨z16_14, 1, none⟩)), (9, .int .i64 e1), (108, .slice (Cl.fad c3) (List.length (Cl.facts c3)) (Cl.fcap c3)), (109, .int .i64 (List.length (Cl.facts c3) : Int)), (110, .int .i64 ((0 : Nat) : Int))] ⟨rfl, rfl, rfl, rfl, rfl, rfl, rfl, rfl, trivial⟩ ?_))))
            refine ok_weak (H' := ((b7, .cells #[.slice (Cl.aad c1) (List.length (Cl.atoms c1)) (Cl.acap c1), .slice (Cl.fad c1) (List.length (Cl.facts c1)) (Cl.fcap c1)] 28 (0, 0)) :: ((b8, .cells #[.slice (Cl.aad c2) (List.length (Cl.atoms c2)) (Cl.acap c2), .slice (Cl.fad c2) (List.length (Cl.facts c2)) (Cl.fcap c2)] 28 (0, 0)) :: ((z16_14, .cells #[.slice (Cl.aad c3) (List.length (Cl.atoms c3)) (Cl.acap c3), .slice (Cl.fad c3) (List.length (Cl.facts c3)) (Cl.fcap c3)] 28 (0, 0)) :: [])))) (Γ' := [rowF (Cl.aad c3) (List.flatMap strC (Cl.atoms c3)), rowF (Cl.fad c3) (List.flatMap Fc.cells (Cl.facts c3)), rowF (Cl.aad c2) (List.flatMap strC (Cl.atoms c2)), rowF (Cl.fad c2) (List.flatMap Fc.cells (Cl.facts c2)), rowF (Cl.aad c1) (List.flatMap strC (Cl.atoms c1)), rowF (Cl.fad c1) (List.flatMap Fc.cells (Cl.facts c1)), rowF tad (List.flatMap Pc.cells T), rowF pad (List.flatMap Pc.cells p), tabN]) (pf_takeB pf_here (pf_takeB pf_here pf_here)) (fun v _ h => by exact ⟨h.1, h.2.1, h.2.2.1, h.2.2.2.1, h.2.2.2.2.1, h.2.2.2.2.2.1, h.2.2.2.2.2.2.1, h.2.2.2.2.2.2.2.1, h.2.2.2.2.2.2.2.2.1, trivial⟩) ?_
            refine run_loop (ι := {y : Nat // y ≤ List.length (Cl.facts c3)}) (fun y => [(8, .pointer (some ⟨b7, 0, none⟩)), (10, .pointer (some ⟨b8, 0, none⟩)), (12, .pointer (some ⟨z16_14, 0, none⟩)), (107, .pointer (some ⟨z16_14, 1, none⟩)), (9, .int .i64 e1), (108, .slice (Cl.fad c3) (List.length (Cl.facts c3)) (Cl.fcap c3)), (109, .int .i64 (List.length (Cl.facts c3) : Int)), (110, .int .i64 (y.1 : Int))]) (fun y => ((b7, .cells #[.slice (Cl.aad c1) (List.length (Cl.atoms c1)) (Cl.acap c1), .slice (Cl.fad c1) (List.length (Cl.facts c1)) (Cl.fcap c1)] 28 (0, 0)) :: ((b8, .cells #[.slice (Cl.aad c2) (List.length (Cl.atoms c2)) (Cl.acap c2), .slice (Cl.fad c2) (List.length (Cl.facts c2)) (Cl.fcap c2)] 28 (0, 0)) :: ((z16_14, .cells #[.slice (Cl.aad c3) (List.length (Cl.atoms c3)) (Cl.acap c3), .slice (Cl.fad c3) (List.length (Cl.facts c3)) (Cl.fcap c3)] 28 (0, 0)) :: [])))) (fun y => [rowF (Cl.aad c3) (List.flatMap strC (Cl.atoms c3)), rowF (Cl.fad c3) (List.flatMap Fc.cells (Cl.facts c3)), rowF (Cl.aad c2) (List.flatMap strC (Cl.atoms c2)), rowF (Cl.fad c2) (List.flatMap Fc.cells (Cl.facts c2)), rowF (Cl.aad c1) (List.flatMap strC (Cl.atoms c1)), rowF (Cl.fad c1) (List.flatMap Fc.cells (Cl.facts c1)), rowF tad (List.flatMap Pc.cells T), rowF pad (List.flatMap Pc.cells p), tabN]) (fun y => List.length (Cl.facts c3) - y.1) ⟨(0 : Nat), Nat.zero_le _⟩ ?_
            rintro ⟨m, hm⟩
            dsimp only at hm ⊢
            refine ok_fr [(8, .pointer (some ⟨b7, 0, none⟩)), (10, .pointer (some ⟨b8, 0, none⟩)), (12, .pointer (some ⟨z16_14, 0, none⟩)), (107, .pointer (some ⟨z16_14, 1, none⟩)), (9, .int .i64 e1), (108, .slice (Cl.fad c3) (List.length (Cl.facts c3)) (Cl.fcap c3)), (109, .int .i64 (List.length (Cl.facts c3) : Int)), (110, .int .i64 (m : Int))] ⟨rfl, rfl, rfl, rfl, rfl, rfl, rfl, rfl, trivial⟩ ?_
            refine run_seq (run_region (ops_valB (yld_lss rfl rfl) rfl fun r12 hr12 => ?_))
            refine ops_nil (fin_next rfl (run_seq ?_))
            cases r12
            ·
             replace hr12 := of_decide_eq_false hr12
             refine run_cond_f rfl (run_exit rfl (fin_next rfl (run_seq (run_region (ops_val (yld_assign rfl) rfl (ops_nil (fin_next rfl ?_)))))))
             refine run_ret ?_
             exact ret1 Tryz.results6 () rfl pf_nil (fun _ _ _ => trivial)
            ·
             replace hr12 := of_decide_eq_true hr12
             have hlx3 : m < List.length (Cl.facts c3) := by omega
             obtain ⟨x3, hx3⟩ : ∃ e0, (Cl.facts c3)[m]? = some e0 := ⟨_, List.getElem?_eq_getElem hlx3⟩
             have hmx3 : x3 ∈ (Cl.facts c3) := List.mem_of_getElem? hx3
             refine run_cond_t rfl (run_skip (fin_next rfl (run_seq (run_block (run_seq (run_region (ops_val (yld_indexR Tryz.runUnderlying26 Tryz.sizeOf41 rfl rfl (fun v _ h => row_adr (n := 6) Fc.cells_len (by decide) (by exact h.2.1) hx3) (by omega) (by first | omega | (simp; done))) rfl ?_)))))))
             refine ops_val (yld_loadRS (ad := (Cl.fad c3)) (us := Fc.cells x3) Tryz.isAgg41 Tryz.sizeOf41 rfl (fun v _ h => by exact h.2.1) (Fc.cells_len _) (row_cells Fc.cells_len hx3)) rfl ?_
             refine ops_alloc Tryz.zeroValue41 rfl fun b17 => ?_
             refine ops_store 0 Tryz.sizeOf41 rfl rfl rfl rfl rfl rfl ?_
             refine ops_nil (fin_next rfl (run_seq (run_region (ops_val (yld_move rfl) rfl (ops_valB (yld_eql rfl rfl) rfl fun r13 hr13 => ?_)))))
             refine ops_val (yld_move rfl) rfl ?_
             cases r13
             ·
              replace hr13 := ne_of_beq_false hr13
              refine ops_no rfl rfl rfl rfl (ops_no rfl rfl rfl rfl (ops_no rfl rfl rfl rfl (ops_no rfl rfl rfl rfl (ops_no rfl rfl rfl rfl (ops_val (yld_pick_f rfl rfl) rfl ?_)))))
              refine ops_nil (fin_next rfl (run_cond_f rfl (run_skip (fin_next rfl (run_region (ops_val (yld_arith rfl rfl rfl (wrap64 (by omega) (by omega))) rfl ?_))))))
              refine ops_val (yld_move rfl) rfl (ops_nil (fin_inv rfl ?_))
              exact ok_again ⟨m + 1, hlx3⟩ (by dsimp only; omega) ⟨rfl, rfl, rfl, rfl, rfl, rfl, rfl, rfl, trivial⟩ (pf_takeB (pf_cons pf_here) (pf_takeB (pf_cons pf_here) (pf_cons pf_here))) (fun v _ h => by exact ⟨h.1, h.2.1, h.2.2.1, h.2.2.2.1, h.2.2.2.2.1, h.2.2.2.2.2.1, h.2.2.2.2.2.2.1, h.2.2.2.2.2.2.2.1, h.2.2.2.2.2.2.2.2.1, trivial⟩)
             ·
              replace hr13 := eq_of_beq hr13
              refine ops_yes rfl rfl (ops_val (yld_field Tryz.runUnderlying28 rfl rfl rfl Tryz.sizeOf26) rfl ?_)
              refine ops_yes rfl rfl (ops_val (yld_load 1 Tryz.isAgg26 rfl rfl rfl) rfl ?_)
              refine ops_yes rfl rfl (ops_val (yld_loadS 0 Tryz.isAgg41 Tryz.sizeOf41 rfl rfl rfl) rfl ?_)
              refine ops_yes rfl rfl (ops_callB (has_c (Cl.facts c1) (Cl.fad c1) (Cl.fcap c1) x3 (by omega) hA1.srt) rfl pf_nil (fun v _ h => by exact ⟨h.2.2.2.2.2.1, trivial⟩) rfl fun r14 hr14 => ?_)
              refine ops_yes rfl rfl (ops_val (yld_not rfl) rfl ?_)
              refine ops_val (yld_pick_t rfl rfl) rfl ?_
              refine ops_nil (fin_next rfl ?_)
              cases r14
              ·
               replace hr14 := dF hr14
               exact absurd ((hls (by assumption)).2 x3 hmx3) hr14
              ·
               replace hr14 := dT hr14
               refine run_cond_f rfl (run_skip (fin_next rfl (run_region (ops_val (yld_arith rfl rfl rfl (wrap64 (by omega) (by omega))) rfl ?_))))
               refine ops_val (yld_move rfl) rfl (ops_nil (fin_inv rfl ?_))
               exact ok_again ⟨m + 1, hlx3⟩ (by dsimp only; omega) ⟨rfl, rfl, rfl, rfl, rfl, rfl, rfl, rfl, trivial⟩ (pf_takeB (pf_cons pf_here) (pf_takeB (pf_cons pf_here) (pf_cons pf_here))) (fun v _ h => by exact ⟨h.1, h.2.1, h.2.2.1, h.2.2.2.1, h.2.2.2.2.1, h.2.2.2.2.2.1, h.2.2.2.2.2.2.1, h.2.2.2.2.2.2.2.1, h.2.2.2.2.2.2.2.2.1, trivial⟩)
           ·
            replace hr11 := ne_of_bne hr11
            exact absurd (hls (by assumption)).1 hr11
         ·
          replace hr6 := ne_of_bne hr6
          exact absurd hs3 hr6
      ·
       replace hr4 := ne_of_bne hr4
       refine run_cond_t rfl (run_seq (run_region (ops_val (yld_assign rfl) rfl (ops_nil (fin_next rfl (run_ret ?_))))))
       exact ret1 Tryz.results6 () rfl pf_nil (fun _ _ _ => trivial)
     ·
      replace hr3 := ne_of_bne hr3
      refine ops_no rfl rfl rfl rfl (ops_no rfl rfl rfl rfl (ops_no rfl rfl rfl rfl (ops_val (yld_pick_t rfl rfl) rfl ?_)))
      refine ops_nil (fin_next rfl (run_cond_t rfl (run_seq (run_region (ops_val (yld_assign rfl) rfl (ops_nil (fin_next rfl ?_)))))))
      refine run_ret ?_
      exact ret1 Tryz.results6 () rfl pf_nil (fun _ _ _ => trivial)
    ·
     replace hr2 := of_decide_eq_true hr2
     have hkT : k < List.length (turnL p i x1) := by omega
     have hkl : k < List.length (nfL k (turnL p i x1)) := by rw [nfL_len]; omega
     have hly1 : k < List.length (nfL k (turnL p i x1)) := hkl
     obtain ⟨y1, hy1⟩ : ∃ e0, (nfL k (turnL p i x1))[k]? = some e0 := ⟨_, List.getElem?_eq_getElem hly1⟩
     have hmy1 : y1 ∈ (nfL k (turnL p i x1)) := List.mem_of_getElem? hy1
     refine run_cond_t rfl (run_skip (fin_next rfl (run_seq (run_block (run_seq (run_region (ops_val (yld_move rfl) rfl ?_)))))))
     refine ops_val (yld_assign rfl) rfl (ops_nil (fin_next rfl (run_region (ops_val (yld_move rfl) rfl (ops_val (yld_move rfl) rfl (ops_val (yld_ixRow hr_Rpc Tryz.runUnderlying22 Tryz.sizeOf47 rfl rfl (by omega) (by omega)) rfl ?_))))))
     refine ops_val (yld_field Tryz.runUnderlying47 rfl rfl rfl Tryz.sizeOf3) rfl ?_
     refine ops_stRow (k := (k : Int).toNat * 10 + 9) hr_Rpc pf_end Tryz.sizeOf3 rfl rfl (by omega) rfl rfl fun Hr19 hr19 => ?_
     have hs19 := (fm_set Pc.cells 10 Pc.cells_len (nfL k (turnL p i x1)) k 9 y1 (Pc.nf y1) (.int .i64 (-1)) hy1 (by decide) rfl).trans (congrArg _ (nfL_step (nfL_get hkT ▸ hy1)))
     have hq19 : SRow 47 10 sv_Rpc (List.length (nfL (k + 1) (turnL p i x1))) (List.flatMap Pc.cells (nfL (k + 1) (turnL p i x1))) Hr19 := by rw [← hs19, show List.length (nfL (k + 1) (turnL p i x1)) = List.length (nfL k (turnL p i x1)) from (nfL_len _ _).trans (nfL_len _ _).symm]; exact hr19
     refine ok_perm pf_bare ?_
     refine ops_nil (fin_next rfl (run_region (ops_val (yld_arith rfl rfl rfl (wrap64 (by omega) (by omega))) rfl ?_)))
     refine ops_val (yld_move rfl) rfl (ops_nil (fin_inv rfl ?_))
     exact ok_again ⟨(k + 1, sv_Rpc, Hr19), by omega, hq19⟩ (by dsimp only; omega) ⟨rfl, rfl, rfl, rfl, rfl, trivial⟩ pf_end (fun v _ h => by exact ⟨h.1, h.2.1, trivial⟩)
  ·
   replace hr1 := eq_of_beq hr1
   refine run_cond_t rfl (run_seq (run_region (ops_val (yld_assign rfl) rfl (ops_nil (fin_next rfl (run_ret ?_))))))
   exact ret1 Tryz.results6 () rfl pf_nil (fun _ _ _ => trivial)
end Go.Proofs.YtpdbbglpbngeiaaGreatDoor
