/-
  Part of the proof of the law SaturateBase over this seat: the small logic, the data, the contracts of functions (no condition).
-/
import Derived.Test.YtpdbbglpbngeiaaGreatDoorQSaturateBase7
import Derived.Test.YtpdbbglpbngeiaaGreatDoorQSaturateBase4
set_option linter.unusedVariables false
set_option linter.unusedSimpArgs false
set_option linter.unusedSectionVars false
namespace Go.Proofs.YtpdbbglpbngeiaaGreatDoor
open Go Go.Sx Go.Proofs
attribute [local irreducible] Code.wp wpList wpAnyH
open Go.Vs
set_option maxHeartbeats 4000000 in
theorem oS_ (p : List Pc) (pad : Option Addr) (pcap : Nat) (bu : Int) (hsm : ∀ x ∈ p, x.sm) (hp : p.length ≤ 100000000) : Tri Tryz.prog 18 #[.slice pad (List.length p) pcap, .int .i64 bu] [] [bb_ pad (List.flatMap Pc.cells p), gG_] (fun y : {y : Cl × Int // eP_ p bu y.1 y.2} => .tuple #[y.1.1.val, .int .i64 y.1.2]) (fun _ => []) (fun y => y.1.1.row) := by
 refine R_ Tryz.func18 rfl rfl Tryz.ntmps18 rfl fun v0 => ?_
 refine f_ (d_ (al_ hD_ rfl fun b1 => ?_))
 refine a_ (h_ rfl) rfl (e_ (b_ rfl (pf_ (f_ (f_ (d_ (a_ (g_ rfl) rfl (Q_ (oM_ p pad pcap (by omega) hsm) rfl X_ (fun v _ h => by exact ⟨h.1, h.2.1, trivial⟩) rfl fun _ => ?_))))))))
 refine a_ (h_ rfl) rfl (e_ (b_ rfl (f_ (d_ (a_ (g_ rfl) rfl (z_ (cJ_ rfl rfl) rfl fun r1 hr1 => ?_))))))
 refine e_ (b_ rfl ?_)
 cases r1
 ·
  replace hr1 := bN_ hr1
  have hchk := hr1
  refine r_ rfl (B_ (b_ rfl (f_ (f_ (d_ (a_ (g_ rfl) rfl (z_ (aC_ rfl rfl) rfl fun r2 hr2 => ?_)))))))
  refine a_ (g_ rfl) rfl ?_
  cases r2
  ·
   replace hr2 := of_decide_eq_false hr2
   have hb0 := hr2
   refine u_ rfl rfl (a_ (g_ rfl) rfl (u_ rfl rfl (z_ (bS_ rfl rfl) rfl fun r3 hr3 => ?_)))
   refine a_ (H_ rfl rfl) rfl (e_ (b_ rfl ?_))
   cases r3
   ·
    replace hr3 := of_decide_eq_false hr3
    have hb1 := hr3
    refine r_ rfl (B_ (b_ rfl (f_ ?_)))
    obtain ⟨m, hm0'⟩ : ∃ m : Nat, min bu 65536 = (m : Int) := ⟨(min bu 65536).toNat, by omega⟩
    have hm : m ≤ 65536 := by omega
    have hvk := mh_ (iR_ hchk)
    have hpl : ∀ k, (lat (aP_ (uniq [] p)) k).length ≤ 1000000000 := fun k => by have h1 := fc_ (aP_ (uniq [] p)) k; have h2 := id_ (uniq [] p); have h3 := fM_ p []; simp only [List.length_nil] at h3; omega
    refine d_ (a_ (g_ rfl) rfl (Q_ (iY_ p pad pcap (by omega)) rfl X_ (fun v _ h => by exact ⟨h.1, trivial⟩) rfl fun ⟨⟨g, pb, kb, ab, ub, ob, ib, rb, sb, fb, lv, hm0, hl0⟩, hy⟩ => ?_))
    dsimp only
    dsimp only [NewE.own, NewE.ok] at hy ⊢
    obtain ⟨hym, hyl⟩ := hy
    simp only [List.cons_append, List.append_assoc]
    refine eL_ hyl (c_ (c_ (c_ (c_ (c_ (c_ (c_ (c_ (c_ (m_ q_)))))))))) fun lad lcap hlad hclad hmlad hzlad => ?_
    subst hlad
    refine al_ Tryz.zeroValue85 rfl fun b2 => ?_
    refine ap_ (aY_ i_ (aY_ i_ (aY_ i_ (aY_ i_ (aY_ i_ (aY_ i_ (aY_ i_ (aY_ i_ (aY_ i_ (aY_ i_ (cn_ ba_))))))))))) (ae_ 0 Tryz.sizeOf85 rfl rfl rfl rfl rfl rfl (e_ (b_ rfl (f_ (d_ (a_ (g_ rfl) rfl (a_ (cc_ (hT_ rfl rfl) (congrArg (Value.int .i64) hm0')) rfl (al_ Tryz.zeroValue3 rfl fun b3 => ?_))))))))
    refine ae_ 0 I_ rfl rfl rfl rfl rfl rfl (e_ (b_ rfl (f_ (d_ (al_ mc_ rfl fun b4 => ?_)))))
    refine e_ (b_ rfl (f_ (d_ (a_ (o_ 2 bw_ rfl rfl rfl) rfl (a_ (cp_ rfl rfl) rfl (a_ (ag_ rfl) rfl (a_ (k_ F_ rfl rfl rfl aR_) rfl (ae_ 3 aR_ rfl rfl rfl rfl rfl rfl (e_ ?_)))))))))
    refine b_ rfl (f_ (eF_ (ct_ b2 (.cells #[zp_ g 0] 85 (0, 0))) (cn_ (c_ (c_ i_))) (fun _ h1 h2 _ => ⟨h1, h2⟩) ?_))
    refine eF_ (ct_ b3 (.cells #[.int .i64 (m : Int)] 3 (0, 0))) (cn_ (c_ i_)) (fun _ h1 h2 _ => ⟨h1, h2⟩) ?_
    refine eF_ (ct_ g (.cells #[.map (some pb), .slice lad (List.length (ak_ (uniq [] p))) lcap, .map (some kb), .func (.func 55) #[] #[zp_ b2 0, zp_ b3 0, zp_ b4 0], .map (some ab), .map (some ub), .map (some ob), .map (some ib), .map (some rb), .map (some sb), .map (some fb)] 94 (0, 0))) (cn_ (c_ i_)) (fun _ h1 h2 _ => ⟨h1, h2⟩) ?_
    refine mL_ fV_ hym (c_ (c_ (c_ (c_ (c_ (c_ (c_ (c_ (c_ ad_))))))))) fun adr => ?_
    refine d_ (a_ (g_ rfl) rfl (Q_ (sM_ p pad pcap (by omega)) rfl X_ (fun v _ h => by exact ⟨h.2.2.2.2.2.1, trivial⟩) rfl fun ⟨⟨aad, acap⟩, hac, ham, haz⟩ => ?_))
    dsimp only
    refine a_ (h_ rfl) rfl (e_ (b_ rfl (f_ (d_ (a_ (Z_ bw_ rfl (fun v _ h => by exact h.2.2.2.2.1) rfl) rfl (a_ (g_ rfl) rfl (Q_ (oO_ (EngB.mk g pb ab ub ob ib rb sb lad lcap (ak_ (uniq [] p))) (EA m hm (EngB.mk g pb ab ub ob ib rb sb lad lcap (ak_ (uniq [] p))) b2 b3 b4 kb fb) [] [] [(b4, .cells #[.slice none 0 0] 26 (0, 0)), (kb, .map #[] 0), (fb, .map #[] 0)] ⟨.slice none 0 0, #[], 0, #[], 0, [], [], rfl, bt_.nil _ _, SetE.nil, SetE.nil, by simp⟩ (atS p) aad acap (by have := jw_ p; omega) (by have := gS_ (uniq [] p); have h3 := fM_ p []; simp only [List.length_nil] at h3; show (ak_ (uniq [] p)).length ≤ _; omega)) rfl (l_ i_ (l_ i_ (c_ (c_ (c_ (c_ (c_ (c_ i_)))))))) (fun v _ h => by exact ⟨h.2.2.1, h.2.2.2.2.2.1, h.1, ⟨h.2.2.2.2.1, h.2.2.2.1, h.2.2.1⟩, trivial⟩) rfl fun ⟨Hs1, hS1⟩ => ?_)))))))
    dsimp only
    refine e_ (b_ rfl (ap_ (aY_ (m_ i_) (aY_ (m_ i_) (aY_ (m_ i_) (aY_ (m_ i_) (aY_ (m_ i_) (aY_ (m_ i_) (cn_ ba_))))))) (f_ (d_ (a_ (Z_ bw_ rfl (fun v _ h => by exact h.2.2.2.2.1) rfl) rfl (Q_ (on_ g) rfl X_ (fun _ _ _ => by exact trivial) rfl fun ⟨r1, r2, r3⟩ => ?_))))))
    dsimp only
    refine al_ Tryz.zeroValue98 rfl fun b5 => ?_
    refine ae_ 0 Tryz.sizeOf98 rfl rfl rfl rfl rfl rfl (e_ (b_ rfl (f_ (ph_ (b_ rfl (f_ (f_ (d_ (a_ (h_ rfl) rfl ?_)))))))))
    refine e_ (b_ rfl (S_ ?_))
    refine aV_ (ι := {y : Nat × List Fc × List Fc × Ix × Hp × Hp × Hp × Hp × Hp × Hp × Hp // LoopA (uniq [] p) (atS p) m y.1 y.2.1 y.2.2.1 y.2.2.2.1 ∧ ((EA m hm (EngB.mk g pb ab ub ob ib rb sb lad lcap (ak_ (uniq [] p))) b2 b3 b4 kb fb)).St y.2.1 y.2.2.1 y.2.2.2.2.2.2.2.2.2.2 ∧ IxO 9 41 (EngB.mk g pb ab ub ob ib rb sb lad lcap (ak_ (uniq [] p))) y.2.2.2.1 ⟨y.2.2.2.2.1, y.2.2.2.2.2.1, y.2.2.2.2.2.2.1, y.2.2.2.2.2.2.2.1, y.2.2.2.2.2.2.2.2.1, y.2.2.2.2.2.2.2.2.2.1⟩ ∧ mV_ y.2.2.2.1 y.1}) (fun y => [(0, .slice pad (List.length p) pcap), (1, .int .i64 bu), (4, zp_ b1 0), (7, zp_ b2 0), (8, zp_ b3 0), (9, zp_ b4 0), (10, .slice aad (List.length (atS p)) acap), (11, zp_ b5 0), (12, .int .i64 (y.1.1 : Int))]) (fun y => ((b1, .cells #[.slice none 0 0, .slice none 0 0] 28 (0, 0)) :: ((b5, .cells #[.slice none 0 0, .slice (some ⟨r1, 0, none⟩) 6 6, .slice (some ⟨r2, 0, none⟩) 4 4, .slice (some ⟨r3, 0, none⟩) 2 2] 98 (0, 0)) :: (y.1.2.2.2.2.1 ++ (y.1.2.2.2.2.2.1 ++ (y.1.2.2.2.2.2.2.1 ++ (y.1.2.2.2.2.2.2.2.1 ++ (y.1.2.2.2.2.2.2.2.2.1 ++ (y.1.2.2.2.2.2.2.2.2.2.1 ++ y.1.2.2.2.2.2.2.2.2.2.2))))))))) (fun y => [bb_ (some ⟨r1, 0, none⟩) (List.flatMap fvC (rlV g 1)), bb_ (some ⟨r2, 0, none⟩) (List.flatMap fvC (rlV g 2)), bb_ (some ⟨r3, 0, none⟩) (List.flatMap fvC (rlV g 3)), bb_ aad (List.flatMap bf_ (atS p)), mlF Tryz.prog 171 Ky.val Pc.cells pb (aP_ (uniq [] p)) adr, ct_ g (.cells #[.map (some pb), .slice lad (List.length (ak_ (uniq [] p))) lcap, .map (some kb), .func (.func 55) #[] #[zp_ b2 0, zp_ b3 0, zp_ b4 0], .map (some ab), .map (some ub), .map (some ob), .map (some ib), .map (some rb), .map (some sb), .map (some fb)] 94 (0, 0)), ct_ b3 (.cells #[.int .i64 (m : Int)] 3 (0, 0)), ct_ b2 (.cells #[zp_ g 0] 85 (0, 0)), bb_ lad (List.flatMap bf_ (ak_ (uniq [] p))), bb_ pad (List.flatMap Pc.cells p), gG_]) (fun y => m + 1 - y.1.1) ⟨((0 : Nat), (emits (bB_ m) (dU_ (ak_ (uniq [] p)) (atS p)) []), ([] : List Fc), Ix.nil, [(ab, .map #[] 0)], [(ub, .map #[] 0)], [(ob, .map #[] 0)], [(ib, .map #[] 0)], [(rb, .map #[] 0)], [(sb, .map #[] 0)], Hs1), mS_ hvk rfl, by exact hS1, ⟨dm_.nil _ _, dm_.nil _ _, dm_.nil _ _, dm_.nil _ _, dm_.nil _ _, dm_.nil _ _⟩, mU_⟩ ⟨rfl, rfl, rfl, rfl, rfl, rfl, rfl, rfl, rfl, trivial⟩ (l_ (c_ (c_ (c_ (c_ (c_ (c_ (c_ i_))))))) (l_ i_ (l_ i_ (l_ i_ (l_ i_ (l_ i_ (l_ i_ (l_ i_ be_)))))))) (fun _ _ h => h) ?_
    rintro ⟨⟨n, q, fm, x, Ha, Hu, Ho, Hi, Hr, Hm, Hs⟩, hL, hS, hI, hz⟩
    dsimp only at hL hS hI hz ⊢
    obtain ⟨sv1, es1, ce1, ef1, cf1, qf1, Hq1, hHs1, hrQ1, hEk1, hEf1, hqf1⟩ := hS
    subst hHs1
    have hqm := hL.len
    have hnq := hL.le
    obtain ⟨hxl, hyl⟩ := ik_ hz (by omega)
    refine f_ (ap_ (aY_ i_ (aY_ i_ (aY_ (m_ (m_ (m_ (m_ (m_ (m_ i_)))))) (cn_ (m_ (m_ (m_ (m_ (m_ (m_ i_)))))))))) (f_ (d_ (a_ (g_ rfl) rfl (a_ (o_ 2 cI_ rfl rfl rfl) rfl (a_ (nu_ hrQ1 az_ rfl) rfl (z_ (aC_ rfl rfl) rfl fun r4 hr4 => ?_)))))))
    refine e_ (b_ rfl ?_)
    cases r4
    ·
     replace hr4 := of_decide_eq_false hr4
     refine r_ rfl (ay_ rfl (b_ rfl (f_ (f_ ?_))))
     refine aE_ (by kernel_rfl) ?_
     refine ab_ 0 [0, 1, 2, 3, 4, 5, 6] (by kernel_rfl) (fun _ a b => ⟨a, b⟩) (j_ rfl (Z_ bw_ rfl (fun v _ h => by exact h.2.2.2.2.2.2.2.1) rfl) rfl (j_ rfl (ag_ rfl) rfl (j_ rfl (k_ F_ rfl rfl rfl bv_) rfl (j_ rfl (Z_ bD_ rfl (fun v _ h => by exact h.2.2.2.2.2.1) rfl) rfl (j_ rfl (cc_ (fk_ (E := (EA m hm (EngB.mk g pb ab ub ob ib rb sb lad lcap (ak_ (uniq [] p))) b2 b3 b4 kb fb)) (nw := q) (Hs := ((b4, .cells #[sv1] 26 (0, 0)) :: (kb, .map es1 ce1) :: ([(fb, .map ef1 cf1)] ++ Hq1))) ⟨sv1, es1, ce1, ef1, cf1, qf1, Hq1, rfl, hrQ1, hEk1, hEf1, hqf1⟩ aS_ rfl (l_ (c_ (c_ i_)) (l_ (c_ (c_ i_)) (y_ (c_ (c_ (m_ (m_ (m_ (m_ (m_ (m_ q_)))))))) (c_ (c_ (m_ (m_ (m_ (m_ (m_ ba_))))))))))) (show _ = Value.int .i64 (List.length q : Int) from rfl)) rfl (j_ rfl (Z_ J_ rfl (fun v _ h => by exact h.2.2.2.2.2.2.1) rfl) rfl ?_))))))
     refine cK_ rfl (bS_ rfl rfl) rfl fun r5 hr5 => ?_
     refine aa_ (Y_ (by kernel_rfl) (b_ rfl ?_))
     cases r5
     ·
      replace hr5 := of_decide_eq_false hr5
      refine r_ rfl (B_ (b_ rfl (f_ (d_ (a_ (o_ 2 cI_ rfl rfl rfl) rfl (Q_ (om_ hrQ1 (by omega)) rfl (c_ (c_ (c_ (c_ (m_ (m_ (m_ (m_ (m_ (m_ ba_)))))))))) (fun _ _ _ => by exact trivial) rfl fun ⟨Hq9, hq9⟩ => ?_))))))
      dsimp only
      refine e_ (b_ rfl (ap_ (aY_ (m_ i_) (aY_ (m_ i_) (aY_ (m_ i_) (cn_ (m_ i_))))) (f_ (eL_ hq9 (c_ (c_ (c_ (c_ q_)))) fun fad fcap hfad hcfad hmfad hzfad => ?_))))
      subst hfad
      refine d_ (a_ (g_ rfl) rfl (a_ (o_ 2 cI_ rfl rfl rfl) rfl (a_ (ao_ eQ_ rfl rfl) rfl (ae_ 0 aH_ rfl rfl rfl rfl rfl rfl (a_ (h_ rfl) rfl (e_ (b_ rfl (D_ ?_))))))))
      exact fP_ ⟨((Cl.mk (atS p) aad acap (fv_ q) fad fcap), 0), sE_ hchk hb0 hb1 hm0' ⟨hac, ham, haz, hcfad, hmfad, hzfad⟩ rfl hL (by omega) (by omega) rfl⟩ (fun aa v h1 h2 => eS_ (us := Cl.cells (Cl.mk (atS p) aad acap (fv_ q) fad fcap)) 0 cU_ bE_ aH_ rfl rfl rfl rfl aa v h1 h2) X_ (fun v _ h => by exact ⟨h.2.2.2.2.1, h.1, trivial⟩)
     ·
      replace hr5 := of_decide_eq_true hr5
      refine n_ rfl (f_ (f_ (d_ (a_ (g_ rfl) rfl (z_ (aC_ rfl rfl) rfl fun r6 hr6 => ?_)))))
      refine e_ (b_ rfl ?_)
      cases r6
      ·
       replace hr6 := of_decide_eq_false hr6
       refine r_ rfl (B_ (b_ rfl (f_ (d_ (a_ (ao_ eQ_ rfl rfl) rfl (ae_ 0 aH_ rfl rfl rfl rfl rfl rfl (a_ (h_ rfl) rfl (e_ (b_ rfl ?_)))))))))
       refine D_ ?_
       exact fP_ ⟨((Cl.mk [] none 0 [] none 0), 2), em_ hchk hb0 hb1 hm0' (by rw [if_neg (by assumption)]) hL.nd hL.der (by omega)⟩ (fun aa v h1 h2 => eS_ (us := Cl.cells (Cl.mk [] none 0 [] none 0)) 0 cU_ bE_ aH_ rfl rfl rfl rfl aa v h1 h2) X_ (fun v _ h => by exact ⟨.inl rfl, .inl rfl, trivial⟩)
      ·
       replace hr6 := of_decide_eq_true hr6
       refine n_ rfl (f_ (d_ (a_ (ao_ eQ_ rfl rfl) rfl (ae_ 0 aH_ rfl rfl rfl rfl rfl rfl (a_ (h_ rfl) rfl (e_ (b_ rfl (D_ ?_))))))))
       exact fP_ ⟨((Cl.mk [] none 0 [] none 0), 3), em_ hchk hb0 hb1 hm0' (by rw [if_pos (by assumption)]) hL.nd hL.der (by omega)⟩ (fun aa v h1 h2 => eS_ (us := Cl.cells (Cl.mk [] none 0 [] none 0)) 0 cU_ bE_ aH_ rfl rfl rfl rfl aa v h1 h2) X_ (fun v _ h => by exact ⟨.inl rfl, .inl rfl, trivial⟩)
    ·
     replace hr4 := of_decide_eq_true hr4
     have hlf : n < List.length q := by omega
     obtain ⟨f, hf⟩ : ∃ e0, q[n]? = some e0 := ⟨_, List.getElem?_eq_getElem hlf⟩
     have hmf : f ∈ q := List.mem_of_getElem? hf
     have hfd := hL.der f hmf
     have hform := hfd.form hvk
     obtain ⟨hxl1, hyl1⟩ := ik_ (gT_ hz (decide (f ∈ fm)) f) (by omega)
     refine n_ rfl (B_ (b_ rfl (f_ (S_ (f_ (d_ (a_ (o_ 2 cI_ rfl rfl rfl) rfl (a_ (g_ rfl) rfl (a_ (oU_ hrQ1 az_ M_ rfl rfl (by omega) (by omega)) rfl ?_)))))))))
     refine a_ (oT_ hrQ1 (c_ (c_ (c_ (c_ (m_ (m_ (m_ (m_ (m_ (m_ ba_)))))))))) af_ M_ rfl (Fc.cells_len _) (by decide) (an_ Fc.cells_len hf)) rfl (al_ aT_ rfl fun b6 => ?_)
     refine ae_ 0 M_ rfl rfl rfl rfl rfl rfl (e_ (b_ rfl (f_ (d_ (a_ (Z_ bw_ rfl (fun v _ h => by exact h.2.2.2.2.2.2.2.1) rfl) rfl (a_ (K_ 0 af_ M_ rfl rfl rfl) rfl (Q_ (oF_ (EngB.mk g pb ab ub ob ib rb sb lad lcap (ak_ (uniq [] p))) (EA m hm (EngB.mk g pb ab ub ob ib rb sb lad lcap (ak_ (uniq [] p))) b2 b3 b4 kb fb) x f q fm ((b4, .cells #[sv1] 26 (0, 0)) :: (kb, .map es1 ce1) :: ([(fb, .map ef1 cf1)] ++ Hq1)) ⟨sv1, es1, ce1, ef1, cf1, qf1, Hq1, rfl, hrQ1, hEk1, hEf1, hqf1⟩ Ha Hu Ho Hi Hr Hm hI hxl hyl) rfl (y_ (c_ (c_ (c_ (c_ (c_ q_))))) (y_ (c_ (c_ (c_ (c_ (c_ q_))))) (y_ (c_ (c_ (c_ (c_ (c_ q_))))) (y_ (c_ (c_ (c_ (c_ (c_ q_))))) (y_ (c_ (c_ (c_ (c_ (c_ q_))))) (y_ (c_ (c_ (c_ (c_ (c_ q_))))) (l_ (c_ (c_ (c_ i_))) (l_ (c_ (c_ (c_ i_))) (y_ (c_ (c_ (c_ q_))) (c_ (c_ ad_))))))))))) (fun v _ h => by exact ⟨h.2.2.2.2.2.1, trivial⟩) rfl fun ⟨⟨Ha1, Hu1, Ho1, Hi1, Hr1, Hm1⟩, hI1⟩ => ?_)))))))
     dsimp only
     refine ap_ rT_ (e_ (b_ rfl (ap_ (aY_ (m_ (m_ (m_ (m_ (m_ (m_ i_)))))) (aY_ (m_ (m_ (m_ (m_ (m_ (m_ i_)))))) (aY_ (m_ (m_ (m_ (m_ (m_ (m_ (m_ (m_ i_)))))))) (aY_ (m_ (m_ (m_ (m_ (m_ (m_ (m_ (m_ i_)))))))) (cn_ (m_ (m_ (m_ (m_ (m_ (m_ (m_ ba_)))))))))))) (f_ (d_ (a_ (k_ s_ rfl rfl rfl I_) rfl (a_ (o_ 2 J_ rfl rfl rfl) rfl ?_)))))))
     rcases fh_ hform with hk | hk | hk
     ·
      refine a_ (cc_ (dh_ dW_ hP_ rfl rfl (by omega) (by omega)) (show _ = zp_ b5 1 from by rw [hk]; rfl)) rfl (a_ (o_ 4 nN_ rfl rfl rfl) rfl (a_ (at_ bn_ rfl) rfl (a_ (g_ rfl) rfl (e_ (b_ rfl (S_ (er_ (H' := ((b1, .cells #[.slice none 0 0, .slice none 0 0] 28 (0, 0)) :: ((b5, .cells #[.slice none 0 0, .slice (some ⟨r1, 0, none⟩) 6 6, .slice (some ⟨r2, 0, none⟩) 4 4, .slice (some ⟨r3, 0, none⟩) 2 2] 98 (0, 0)) :: ((b6, .cells (Fc.cells f).toArray 41 (0, 0)) :: (Ha1 ++ (Hu1 ++ (Ho1 ++ (Hi1 ++ (Hr1 ++ (Hm1 ++ ((b4, .cells #[sv1] 26 (0, 0)) :: (kb, .map es1 ce1) :: ([(fb, .map ef1 cf1)] ++ Hq1)))))))))))) (l_ (c_ (c_ (c_ i_))) (l_ (c_ (c_ (c_ i_))) (l_ (c_ (c_ i_)) (y_ (c_ (c_ q_)) (y_ (c_ (c_ q_)) (y_ (c_ (c_ q_)) (y_ (c_ (c_ q_)) (y_ (c_ (c_ q_)) (y_ (c_ (c_ q_)) (l_ i_ (l_ i_ (y_ q_ be_)))))))))))) (fun v _ h => h) ?_)))))))
      refine aV_ (ι := {y : Nat × Hp // y.1 ≤ 6 ∧ ((EA m hm (EngB.mk g pb ab ub ob ib rb sb lad lcap (ak_ (uniq [] p))) b2 b3 b4 kb fb)).St (rls (bB_ m) idk (aP_ (uniq [] p)) (Ix.add x (decide (f ∈ fm)) f) f y.1 (q, fm)).1 (rls (bB_ m) idk (aP_ (uniq [] p)) (Ix.add x (decide (f ∈ fm)) f) f y.1 (q, fm)).2 y.2 ∧ (y.1 = 0 ∨ ((rls (bB_ m) idk (aP_ (uniq [] p)) (Ix.add x (decide (f ∈ fm)) f) f y.1 (q, fm)).1).length ≤ m)}) (fun y => [(0, .slice pad (List.length p) pcap), (1, .int .i64 bu), (4, zp_ b1 0), (7, zp_ b2 0), (8, zp_ b3 0), (9, zp_ b4 0), (10, .slice aad (List.length (atS p)) acap), (11, zp_ b5 0), (12, .int .i64 (n : Int)), (13, zp_ b6 0), (60, .slice (some ⟨r1, 0, none⟩) 6 6), (61, .int .i64 6), (62, .int .i64 (y.1.1 : Int))]) (fun y => ((b1, .cells #[.slice none 0 0, .slice none 0 0] 28 (0, 0)) :: ((b5, .cells #[.slice none 0 0, .slice (some ⟨r1, 0, none⟩) 6 6, .slice (some ⟨r2, 0, none⟩) 4 4, .slice (some ⟨r3, 0, none⟩) 2 2] 98 (0, 0)) :: ((b6, .cells (Fc.cells f).toArray 41 (0, 0)) :: (Ha1 ++ (Hu1 ++ (Ho1 ++ (Hi1 ++ (Hr1 ++ (Hm1 ++ y.1.2)))))))))) (fun y => [bb_ (some ⟨r1, 0, none⟩) (List.flatMap fvC (rlV g 1)), bb_ (some ⟨r2, 0, none⟩) (List.flatMap fvC (rlV g 2)), bb_ (some ⟨r3, 0, none⟩) (List.flatMap fvC (rlV g 3)), bb_ aad (List.flatMap bf_ (atS p)), mlF Tryz.prog 171 Ky.val Pc.cells pb (aP_ (uniq [] p)) adr, ct_ g (.cells #[.map (some pb), .slice lad (List.length (ak_ (uniq [] p))) lcap, .map (some kb), .func (.func 55) #[] #[zp_ b2 0, zp_ b3 0, zp_ b4 0], .map (some ab), .map (some ub), .map (some ob), .map (some ib), .map (some rb), .map (some sb), .map (some fb)] 94 (0, 0)), ct_ b3 (.cells #[.int .i64 (m : Int)] 3 (0, 0)), ct_ b2 (.cells #[zp_ g 0] 85 (0, 0)), bb_ lad (List.flatMap bf_ (ak_ (uniq [] p))), bb_ pad (List.flatMap Pc.cells p), gG_]) (fun y => 6 - y.1.1) ⟨((0 : Nat), ((b4, .cells #[sv1] 26 (0, 0)) :: (kb, .map es1 ce1) :: ([(fb, .map ef1 cf1)] ++ Hq1))), by omega, by exact ⟨sv1, es1, ce1, ef1, cf1, qf1, Hq1, rfl, hrQ1, hEk1, hEf1, hqf1⟩, .inl rfl⟩ ⟨rfl, rfl, rfl, rfl, rfl, rfl, rfl, rfl, rfl, rfl, rfl, rfl, rfl, trivial⟩ (l_ i_ (l_ i_ (l_ i_ (y_ q_ (y_ q_ (y_ q_ (y_ q_ (y_ q_ (y_ q_ be_))))))))) (fun _ _ h => h) ?_
      rintro ⟨⟨j, Hs⟩, hj, hS2, hjm⟩
      dsimp only at hj hS2 hjm ⊢
      refine f_ (d_ (z_ (aC_ rfl rfl) rfl fun r7 hr7 => ?_))
      refine e_ (b_ rfl (f_ ?_))
      cases r7
      ·
       replace hr7 := of_decide_eq_false hr7
       have ej : j = 6 := by omega
       have hjl : ((rls (bB_ m) idk (aP_ (uniq [] p)) (Ix.add x (decide (f ∈ fm)) f) f j (q, fm)).1).length ≤ m := hjm.resolve_left (by omega)
       rw [ej] at hjl hS2
       refine r_ rfl (ay_ rfl (b_ rfl (d_ (a_ (g_ rfl) rfl (a_ (V_ rfl rfl rfl (am_ (by omega) (by omega))) rfl (a_ (h_ rfl) rfl (e_ (t_ rfl ?_))))))))
       exact ah_ ⟨(n + 1, (rls (bB_ m) idk (aP_ (uniq [] p)) (Ix.add x (decide (f ∈ fm)) f) f 6 (q, fm)).1, (rls (bB_ m) idk (aP_ (uniq [] p)) (Ix.add x (decide (f ∈ fm)) f) f 6 (q, fm)).2, (Ix.add x (decide (f ∈ fm)) f), Ha1, Hu1, Ho1, Hi1, Hr1, Hm1, Hs), (hL_ hvk hL hf (by have e : nrl f = 6 := (by unfold nrl; simp [hk]); rw [e]) (by omega)), (by exact hS2), hI1, (gT_ hz _ f)⟩ (by dsimp only; omega) ⟨rfl, rfl, rfl, rfl, rfl, rfl, rfl, rfl, rfl, trivial⟩ (l_ i_ (l_ i_ (y_ (c_ q_) (y_ (c_ q_) (y_ (c_ q_) (y_ (c_ q_) (y_ (c_ q_) (y_ (c_ q_) ad_)))))))) (fun _ _ h => h)
      ·
       replace hr7 := of_decide_eq_true hr7
       have hlfv : j < List.length (rlV g 1) := by show j < 6; omega
       obtain ⟨fv, hfv⟩ : ∃ e0, (rlV g 1)[j]? = some e0 := ⟨_, List.getElem?_eq_getElem hlfv⟩
       have hmfv : fv ∈ (rlV g 1) := List.mem_of_getElem? hfv
       refine n_ rfl (B_ (b_ rfl (f_ (S_ (f_ (d_ (a_ (aj_ bn_ aR_ rfl rfl (fun v _ h => aO_ (n := 1) ec_ (by decide) (by exact h.1) hfv) (by omega) (by omega)) rfl (a_ (bA_ (ad := (some ⟨r1, 0, none⟩)) bj_ rfl (fun v _ h => by exact h.1) (an_ ec_ hfv 0 _ rfl)) rfl (a_ (h_ rfl) rfl ?_)))))))))
       refine e_ (b_ rfl (f_ (d_ (a_ (g_ rfl) rfl (a_ (K_ 2 af_ M_ rfl rfl rfl) rfl ?_)))))
       obtain ⟨nr, rfl, hT⟩ := oq_ (EngB.mk g pb ab ub ob ib rb sb lad lcap (ak_ (uniq [] p))) (EA m hm (EngB.mk g pb ab ub ob ib rb sb lad lcap (ak_ (uniq [] p))) b2 b3 b4 kb fb) (EngA.mk adr (fun _ => (none, 0)) (fun _ => (none, 0)) (fun _ => (none, 0)) (fun _ => (none, 0)) (fun _ => (none, 0)) (fun _ => (none, 0))) (aP_ (uniq [] p)) (Ix.add x (decide (f ∈ fm)) f) f (rls (bB_ m) idk (aP_ (uniq [] p)) (Ix.add x (decide (f ∈ fm)) f) f j (q, fm)).1 (rls (bB_ m) idk (aP_ (uniq [] p)) (Ix.add x (decide (f ∈ fm)) f) f j (q, fm)).2 Hs hS2 Ha1 Hu1 Ho1 Hi1 Hr1 Hm1 hI1 hpl hxl1 hyl1 (fun hk => (fs_ hform hk).2.2) (fun _ y hy => (hvk y (pm9.1 hy).1).num (.inr (pm9.1 hy).2.1)) hk j hfv
       refine aF_ (first := [zp_ g 0]) (vs := [Fc.val f]) (cap := []) hT rfl rfl (iD_ (y_ (c_ (c_ (c_ q_))) (y_ (c_ (c_ (c_ q_))) (y_ (c_ (c_ (c_ q_))) (y_ (c_ (c_ (c_ q_))) (y_ (c_ (c_ (c_ q_))) (y_ (c_ (c_ (c_ q_))) (c_ (c_ ad_))))))))) (fun v _ h => by exact ⟨h.2.2.2.2.2.1, h.2.2.2.2.1, ⟨h.2.2.2.2.2.2.2.1, h.2.2.2.2.2.2.1, h.2.2.2.2.2.1⟩, trivial⟩) rfl fun ⟨Hs3, hS3⟩ => ?_
       refine ap_ hn_ (e_ (b_ rfl (ap_ (aY_ (m_ (m_ (m_ (m_ (m_ (m_ (m_ i_))))))) (aY_ (m_ (m_ (m_ (m_ (m_ (m_ (m_ i_))))))) (cn_ (m_ (m_ (m_ (m_ (m_ (m_ ba_))))))))) (f_ ?_))))
       refine aE_ (by kernel_rfl) ?_
       refine ab_ 0 [0, 1, 2, 3, 4, 5, 6] (by kernel_rfl) (fun _ a b => ⟨a, b⟩) (j_ rfl (Z_ bw_ rfl (fun v _ h => by exact h.2.2.2.2.2.2.2.1) rfl) rfl (j_ rfl (ag_ rfl) rfl (j_ rfl (k_ F_ rfl rfl rfl bv_) rfl (j_ rfl (Z_ bD_ rfl (fun v _ h => by exact h.2.2.2.2.2.1) rfl) rfl (j_ rfl (cc_ (fk_ (E := (EA m hm (EngB.mk g pb ab ub ob ib rb sb lad lcap (ak_ (uniq [] p))) b2 b3 b4 kb fb)) (nw := (rls (bB_ m) idk (aP_ (uniq [] p)) (Ix.add x (decide (f ∈ fm)) f) f (j + 1) (q, fm)).1) (Hs := Hs3) hS3 aS_ rfl (c_ (c_ (c_ (m_ (m_ (m_ (m_ (m_ ba_))))))))) (show _ = Value.int .i64 (List.length (rls (bB_ m) idk (aP_ (uniq [] p)) (Ix.add x (decide (f ∈ fm)) f) f (j + 1) (q, fm)).1 : Int) from rfl)) rfl (j_ rfl (Z_ J_ rfl (fun v _ h => by exact h.2.2.2.2.2.2.1) rfl) rfl ?_))))))
       refine cK_ rfl (bS_ rfl rfl) rfl fun r8 hr8 => ?_
       refine aa_ (Y_ (by kernel_rfl) (b_ rfl ?_))
       cases r8
       ·
        replace hr8 := of_decide_eq_false hr8
        refine r_ rfl (B_ (b_ rfl (d_ (a_ (V_ rfl rfl rfl (am_ (by omega) (by omega))) rfl (a_ (g_ rfl) rfl (e_ (t_ rfl ?_)))))))
        exact ah_ ⟨(j + 1, Hs3), hlfv, by exact hS3, .inr (by dsimp only; omega)⟩ (by dsimp only; omega) ⟨rfl, rfl, rfl, rfl, rfl, rfl, rfl, rfl, rfl, rfl, rfl, rfl, rfl, trivial⟩ (l_ i_ (l_ i_ (l_ i_ (y_ q_ (y_ q_ (y_ q_ (y_ q_ (y_ q_ (y_ q_ be_))))))))) (fun _ _ h => h)
       ·
        replace hr8 := of_decide_eq_true hr8
        refine n_ rfl (ay_ rfl (b_ rfl (f_ (f_ ?_))))
        refine aE_ (by kernel_rfl) ?_
        refine ab_ 0 [0, 1, 2, 3, 4, 5, 6] (by kernel_rfl) (fun _ a b => ⟨a, b⟩) (j_ rfl (Z_ bw_ rfl (fun v _ h => by exact h.2.2.2.2.2.2.2.1) rfl) rfl (j_ rfl (ag_ rfl) rfl (j_ rfl (k_ F_ rfl rfl rfl bv_) rfl (j_ rfl (Z_ bD_ rfl (fun v _ h => by exact h.2.2.2.2.2.1) rfl) rfl (j_ rfl (cc_ (fk_ (E := (EA m hm (EngB.mk g pb ab ub ob ib rb sb lad lcap (ak_ (uniq [] p))) b2 b3 b4 kb fb)) (nw := (rls (bB_ m) idk (aP_ (uniq [] p)) (Ix.add x (decide (f ∈ fm)) f) f (j + 1) (q, fm)).1) (Hs := Hs3) hS3 aS_ rfl (c_ (c_ (c_ (m_ (m_ (m_ (m_ (m_ ba_))))))))) (show _ = Value.int .i64 (List.length (rls (bB_ m) idk (aP_ (uniq [] p)) (Ix.add x (decide (f ∈ fm)) f) f (j + 1) (q, fm)).1 : Int) from rfl)) rfl (j_ rfl (Z_ J_ rfl (fun v _ h => by exact h.2.2.2.2.2.2.1) rfl) rfl ?_))))))
        refine cK_ rfl (bS_ rfl rfl) rfl fun r9 hr9 => ?_
        refine aa_ (Y_ (by kernel_rfl) (b_ rfl ?_))
        cases r9
        ·
         replace hr9 := of_decide_eq_false hr9
         omega
        ·
         replace hr9 := of_decide_eq_true hr9
         refine n_ rfl (f_ (f_ (d_ (a_ (g_ rfl) rfl (z_ (aC_ rfl rfl) rfl fun r10 hr10 => ?_)))))
         refine e_ (b_ rfl ?_)
         cases r10
         ·
          replace hr10 := of_decide_eq_false hr10
          refine r_ rfl (B_ (b_ rfl (f_ (d_ (a_ (ao_ eQ_ rfl rfl) rfl (ae_ 0 aH_ rfl rfl rfl rfl rfl rfl (a_ (h_ rfl) rfl (e_ (b_ rfl ?_)))))))))
          refine D_ ?_
          exact fP_ ⟨((Cl.mk [] none 0 [] none 0), 2), em_ hchk hb0 hb1 hm0' (by rw [if_neg (by assumption)]) (cx_ hvk hL hf (j + 1) rfl).1 (cx_ hvk hL hf (j + 1) rfl).2.2.1 (by omega)⟩ (fun aa v h1 h2 => eS_ (us := Cl.cells (Cl.mk [] none 0 [] none 0)) 0 cU_ bE_ aH_ rfl rfl rfl rfl aa v h1 h2) X_ (fun v _ h => by exact ⟨.inl rfl, .inl rfl, trivial⟩)
         ·
          replace hr10 := of_decide_eq_true hr10
          refine n_ rfl (f_ (d_ (a_ (ao_ eQ_ rfl rfl) rfl (ae_ 0 aH_ rfl rfl rfl rfl rfl rfl (a_ (h_ rfl) rfl (e_ (b_ rfl (D_ ?_))))))))
          exact fP_ ⟨((Cl.mk [] none 0 [] none 0), 3), em_ hchk hb0 hb1 hm0' (by rw [if_pos (by assumption)]) (cx_ hvk hL hf (j + 1) rfl).1 (cx_ hvk hL hf (j + 1) rfl).2.2.1 (by omega)⟩ (fun aa v h1 h2 => eS_ (us := Cl.cells (Cl.mk [] none 0 [] none 0)) 0 cU_ bE_ aH_ rfl rfl rfl rfl aa v h1 h2) X_ (fun v _ h => by exact ⟨.inl rfl, .inl rfl, trivial⟩)
     ·
      refine a_ (cc_ (dh_ dW_ hP_ rfl rfl (by omega) (by omega)) (show _ = zp_ b5 2 from by rw [hk]; rfl)) rfl (a_ (o_ 4 nN_ rfl rfl rfl) rfl (a_ (at_ bn_ rfl) rfl (a_ (g_ rfl) rfl (e_ (b_ rfl (S_ (er_ (H' := ((b1, .cells #[.slice none 0 0, .slice none 0 0] 28 (0, 0)) :: ((b5, .cells #[.slice none 0 0, .slice (some ⟨r1, 0, none⟩) 6 6, .slice (some ⟨r2, 0, none⟩) 4 4, .slice (some ⟨r3, 0, none⟩) 2 2] 98 (0, 0)) :: ((b6, .cells (Fc.cells f).toArray 41 (0, 0)) :: (Ha1 ++ (Hu1 ++ (Ho1 ++ (Hi1 ++ (Hr1 ++ (Hm1 ++ ((b4, .cells #[sv1] 26 (0, 0)) :: (kb, .map es1 ce1) :: ([(fb, .map ef1 cf1)] ++ Hq1)))))))))))) (l_ (c_ (c_ (c_ i_))) (l_ (c_ (c_ (c_ i_))) (l_ (c_ (c_ i_)) (y_ (c_ (c_ q_)) (y_ (c_ (c_ q_)) (y_ (c_ (c_ q_)) (y_ (c_ (c_ q_)) (y_ (c_ (c_ q_)) (y_ (c_ (c_ q_)) (l_ i_ (l_ i_ (y_ q_ be_)))))))))))) (fun v _ h => h) ?_)))))))
      refine aV_ (ι := {y : Nat × Hp // y.1 ≤ 4 ∧ ((EA m hm (EngB.mk g pb ab ub ob ib rb sb lad lcap (ak_ (uniq [] p))) b2 b3 b4 kb fb)).St (rls (bB_ m) idk (aP_ (uniq [] p)) (Ix.add x (decide (f ∈ fm)) f) f y.1 (q, fm)).1 (rls (bB_ m) idk (aP_ (uniq [] p)) (Ix.add x (decide (f ∈ fm)) f) f y.1 (q, fm)).2 y.2 ∧ (y.1 = 0 ∨ ((rls (bB_ m) idk (aP_ (uniq [] p)) (Ix.add x (decide (f ∈ fm)) f) f y.1 (q, fm)).1).length ≤ m)}) (fun y => [(0, .slice pad (List.length p) pcap), (1, .int .i64 bu), (4, zp_ b1 0), (7, zp_ b2 0), (8, zp_ b3 0), (9, zp_ b4 0), (10, .slice aad (List.length (atS p)) acap), (11, zp_ b5 0), (12, .int .i64 (n : Int)), (13, zp_ b6 0), (60, .slice (some ⟨r2, 0, none⟩) 4 4), (61, .int .i64 4), (62, .int .i64 (y.1.1 : Int))]) (fun y => ((b1, .cells #[.slice none 0 0, .slice none 0 0] 28 (0, 0)) :: ((b5, .cells #[.slice none 0 0, .slice (some ⟨r1, 0, none⟩) 6 6, .slice (some ⟨r2, 0, none⟩) 4 4, .slice (some ⟨r3, 0, none⟩) 2 2] 98 (0, 0)) :: ((b6, .cells (Fc.cells f).toArray 41 (0, 0)) :: (Ha1 ++ (Hu1 ++ (Ho1 ++ (Hi1 ++ (Hr1 ++ (Hm1 ++ y.1.2)))))))))) (fun y => [bb_ (some ⟨r1, 0, none⟩) (List.flatMap fvC (rlV g 1)), bb_ (some ⟨r2, 0, none⟩) (List.flatMap fvC (rlV g 2)), bb_ (some ⟨r3, 0, none⟩) (List.flatMap fvC (rlV g 3)), bb_ aad (List.flatMap bf_ (atS p)), mlF Tryz.prog 171 Ky.val Pc.cells pb (aP_ (uniq [] p)) adr, ct_ g (.cells #[.map (some pb), .slice lad (List.length (ak_ (uniq [] p))) lcap, .map (some kb), .func (.func 55) #[] #[zp_ b2 0, zp_ b3 0, zp_ b4 0], .map (some ab), .map (some ub), .map (some ob), .map (some ib), .map (some rb), .map (some sb), .map (some fb)] 94 (0, 0)), ct_ b3 (.cells #[.int .i64 (m : Int)] 3 (0, 0)), ct_ b2 (.cells #[zp_ g 0] 85 (0, 0)), bb_ lad (List.flatMap bf_ (ak_ (uniq [] p))), bb_ pad (List.flatMap Pc.cells p), gG_]) (fun y => 4 - y.1.1) ⟨((0 : Nat), ((b4, .cells #[sv1] 26 (0, 0)) :: (kb, .map es1 ce1) :: ([(fb, .map ef1 cf1)] ++ Hq1))), by omega, by exact ⟨sv1, es1, ce1, ef1, cf1, qf1, Hq1, rfl, hrQ1, hEk1, hEf1, hqf1⟩, .inl rfl⟩ ⟨rfl, rfl, rfl, rfl, rfl, rfl, rfl, rfl, rfl, rfl, rfl, rfl, rfl, trivial⟩ (l_ i_ (l_ i_ (l_ i_ (y_ q_ (y_ q_ (y_ q_ (y_ q_ (y_ q_ (y_ q_ be_))))))))) (fun _ _ h => h) ?_
      rintro ⟨⟨j, Hs⟩, hj, hS2, hjm⟩
      dsimp only at hj hS2 hjm ⊢
      refine f_ (d_ (z_ (aC_ rfl rfl) rfl fun r11 hr11 => ?_))
      refine e_ (b_ rfl (f_ ?_))
      cases r11
      ·
       replace hr11 := of_decide_eq_false hr11
       have ej : j = 4 := by omega
       have hjl : ((rls (bB_ m) idk (aP_ (uniq [] p)) (Ix.add x (decide (f ∈ fm)) f) f j (q, fm)).1).length ≤ m := hjm.resolve_left (by omega)
       rw [ej] at hjl hS2
       refine r_ rfl (ay_ rfl (b_ rfl (d_ (a_ (g_ rfl) rfl (a_ (V_ rfl rfl rfl (am_ (by omega) (by omega))) rfl (a_ (h_ rfl) rfl (e_ (t_ rfl ?_))))))))
       exact ah_ ⟨(n + 1, (rls (bB_ m) idk (aP_ (uniq [] p)) (Ix.add x (decide (f ∈ fm)) f) f 4 (q, fm)).1, (rls (bB_ m) idk (aP_ (uniq [] p)) (Ix.add x (decide (f ∈ fm)) f) f 4 (q, fm)).2, (Ix.add x (decide (f ∈ fm)) f), Ha1, Hu1, Ho1, Hi1, Hr1, Hm1, Hs), (hL_ hvk hL hf (by have e : nrl f = 4 := (by unfold nrl; simp [hk]); rw [e]) (by omega)), (by exact hS2), hI1, (gT_ hz _ f)⟩ (by dsimp only; omega) ⟨rfl, rfl, rfl, rfl, rfl, rfl, rfl, rfl, rfl, trivial⟩ (l_ i_ (l_ i_ (y_ (c_ q_) (y_ (c_ q_) (y_ (c_ q_) (y_ (c_ q_) (y_ (c_ q_) (y_ (c_ q_) ad_)))))))) (fun _ _ h => h)
      ·
       replace hr11 := of_decide_eq_true hr11
       have hlfv : j < List.length (rlV g 2) := by show j < 4; omega
       obtain ⟨fv, hfv⟩ : ∃ e0, (rlV g 2)[j]? = some e0 := ⟨_, List.getElem?_eq_getElem hlfv⟩
       have hmfv : fv ∈ (rlV g 2) := List.mem_of_getElem? hfv
       refine n_ rfl (B_ (b_ rfl (f_ (S_ (f_ (d_ (a_ (aj_ bn_ aR_ rfl rfl (fun v _ h => aO_ (n := 1) ec_ (by decide) (by exact h.2.1) hfv) (by omega) (by omega)) rfl (a_ (bA_ (ad := (some ⟨r2, 0, none⟩)) bj_ rfl (fun v _ h => by exact h.2.1) (an_ ec_ hfv 0 _ rfl)) rfl (a_ (h_ rfl) rfl ?_)))))))))
       refine e_ (b_ rfl (f_ (d_ (a_ (g_ rfl) rfl (a_ (K_ 2 af_ M_ rfl rfl rfl) rfl ?_)))))
       obtain ⟨nr, rfl, hT⟩ := op_ (EngB.mk g pb ab ub ob ib rb sb lad lcap (ak_ (uniq [] p))) (EA m hm (EngB.mk g pb ab ub ob ib rb sb lad lcap (ak_ (uniq [] p))) b2 b3 b4 kb fb) (EngA.mk adr (fun _ => (none, 0)) (fun _ => (none, 0)) (fun _ => (none, 0)) (fun _ => (none, 0)) (fun _ => (none, 0)) (fun _ => (none, 0))) (aP_ (uniq [] p)) (Ix.add x (decide (f ∈ fm)) f) f (rls (bB_ m) idk (aP_ (uniq [] p)) (Ix.add x (decide (f ∈ fm)) f) f j (q, fm)).1 (rls (bB_ m) idk (aP_ (uniq [] p)) (Ix.add x (decide (f ∈ fm)) f) f j (q, fm)).2 Hs hS2 Ha1 Hu1 Ho1 Hi1 Hr1 Hm1 hI1 hpl hxl1 hyl1 (fun hk => (fs_ hform hk).2.2) (fun _ y hy => (hvk y (pm9.1 hy).1).num (.inr (pm9.1 hy).2.1)) hk j hfv
       refine aF_ (first := [zp_ g 0]) (vs := [Fc.val f]) (cap := []) hT rfl rfl (iD_ (y_ (c_ (c_ (c_ q_))) (y_ (c_ (c_ (c_ q_))) (y_ (c_ (c_ (c_ q_))) (y_ (c_ (c_ (c_ q_))) (y_ (c_ (c_ (c_ q_))) (y_ (c_ (c_ (c_ q_))) (c_ (c_ ad_))))))))) (fun v _ h => by exact ⟨h.2.2.2.2.2.1, h.2.2.2.2.1, ⟨h.2.2.2.2.2.2.2.1, h.2.2.2.2.2.2.1, h.2.2.2.2.2.1⟩, trivial⟩) rfl fun ⟨Hs3, hS3⟩ => ?_
       refine ap_ hn_ (e_ (b_ rfl (ap_ (aY_ (m_ (m_ (m_ (m_ (m_ (m_ (m_ i_))))))) (aY_ (m_ (m_ (m_ (m_ (m_ (m_ (m_ i_))))))) (cn_ (m_ (m_ (m_ (m_ (m_ (m_ ba_))))))))) (f_ ?_))))
       refine aE_ (by kernel_rfl) ?_
       refine ab_ 0 [0, 1, 2, 3, 4, 5, 6] (by kernel_rfl) (fun _ a b => ⟨a, b⟩) (j_ rfl (Z_ bw_ rfl (fun v _ h => by exact h.2.2.2.2.2.2.2.1) rfl) rfl (j_ rfl (ag_ rfl) rfl (j_ rfl (k_ F_ rfl rfl rfl bv_) rfl (j_ rfl (Z_ bD_ rfl (fun v _ h => by exact h.2.2.2.2.2.1) rfl) rfl (j_ rfl (cc_ (fk_ (E := (EA m hm (EngB.mk g pb ab ub ob ib rb sb lad lcap (ak_ (uniq [] p))) b2 b3 b4 kb fb)) (nw := (rls (bB_ m) idk (aP_ (uniq [] p)) (Ix.add x (decide (f ∈ fm)) f) f (j + 1) (q, fm)).1) (Hs := Hs3) hS3 aS_ rfl (c_ (c_ (c_ (m_ (m_ (m_ (m_ (m_ ba_))))))))) (show _ = Value.int .i64 (List.length (rls (bB_ m) idk (aP_ (uniq [] p)) (Ix.add x (decide (f ∈ fm)) f) f (j + 1) (q, fm)).1 : Int) from rfl)) rfl (j_ rfl (Z_ J_ rfl (fun v _ h => by exact h.2.2.2.2.2.2.1) rfl) rfl ?_))))))
       refine cK_ rfl (bS_ rfl rfl) rfl fun r12 hr12 => ?_
       refine aa_ (Y_ (by kernel_rfl) (b_ rfl ?_))
       cases r12
       ·
        replace hr12 := of_decide_eq_false hr12
        refine r_ rfl (B_ (b_ rfl (d_ (a_ (V_ rfl rfl rfl (am_ (by omega) (by omega))) rfl (a_ (g_ rfl) rfl (e_ (t_ rfl ?_)))))))
        exact ah_ ⟨(j + 1, Hs3), hlfv, by exact hS3, .inr (by dsimp only; omega)⟩ (by dsimp only; omega) ⟨rfl, rfl, rfl, rfl, rfl, rfl, rfl, rfl, rfl, rfl, rfl, rfl, rfl, trivial⟩ (l_ i_ (l_ i_ (l_ i_ (y_ q_ (y_ q_ (y_ q_ (y_ q_ (y_ q_ (y_ q_ be_))))))))) (fun _ _ h => h)
       ·
        replace hr12 := of_decide_eq_true hr12
        refine n_ rfl (ay_ rfl (b_ rfl (f_ (f_ ?_))))
        refine aE_ (by kernel_rfl) ?_
        refine ab_ 0 [0, 1, 2, 3, 4, 5, 6] (by kernel_rfl) (fun _ a b => ⟨a, b⟩) (j_ rfl (Z_ bw_ rfl (fun v _ h => by exact h.2.2.2.2.2.2.2.1) rfl) rfl (j_ rfl (ag_ rfl) rfl (j_ rfl (k_ F_ rfl rfl rfl bv_) rfl (j_ rfl (Z_ bD_ rfl (fun v _ h => by exact h.2.2.2.2.2.1) rfl) rfl (j_ rfl (cc_ (fk_ (E := (EA m hm (EngB.mk g pb ab ub ob ib rb sb lad lcap (ak_ (uniq [] p))) b2 b3 b4 kb fb)) (nw := (rls (bB_ m) idk (aP_ (uniq [] p)) (Ix.add x (decide (f ∈ fm)) f) f (j + 1) (q, fm)).1) (Hs := Hs3) hS3 aS_ rfl (c_ (c_ (c_ (m_ (m_ (m_ (m_ (m_ ba_))))))))) (show _ = Value.int .i64 (List.length (rls (bB_ m) idk (aP_ (uniq [] p)) (Ix.add x (decide (f ∈ fm)) f) f (j + 1) (q, fm)).1 : Int) from rfl)) rfl (j_ rfl (Z_ J_ rfl (fun v _ h => by exact h.2.2.2.2.2.2.1) rfl) rfl ?_))))))
        refine cK_ rfl (bS_ rfl rfl) rfl fun r13 hr13 => ?_
        refine aa_ (Y_ (by kernel_rfl) (b_ rfl ?_))
        cases r13
        ·
         replace hr13 := of_decide_eq_false hr13
         omega
        ·
         replace hr13 := of_decide_eq_true hr13
         refine n_ rfl (f_ (f_ (d_ (a_ (g_ rfl) rfl (z_ (aC_ rfl rfl) rfl fun r14 hr14 => ?_)))))
         refine e_ (b_ rfl ?_)
         cases r14
         ·
          replace hr14 := of_decide_eq_false hr14
          refine r_ rfl (B_ (b_ rfl (f_ (d_ (a_ (ao_ eQ_ rfl rfl) rfl (ae_ 0 aH_ rfl rfl rfl rfl rfl rfl (a_ (h_ rfl) rfl (e_ (b_ rfl ?_)))))))))
          refine D_ ?_
          exact fP_ ⟨((Cl.mk [] none 0 [] none 0), 2), em_ hchk hb0 hb1 hm0' (by rw [if_neg (by assumption)]) (cx_ hvk hL hf (j + 1) rfl).1 (cx_ hvk hL hf (j + 1) rfl).2.2.1 (by omega)⟩ (fun aa v h1 h2 => eS_ (us := Cl.cells (Cl.mk [] none 0 [] none 0)) 0 cU_ bE_ aH_ rfl rfl rfl rfl aa v h1 h2) X_ (fun v _ h => by exact ⟨.inl rfl, .inl rfl, trivial⟩)
         ·
          replace hr14 := of_decide_eq_true hr14
          refine n_ rfl (f_ (d_ (a_ (ao_ eQ_ rfl rfl) rfl (ae_ 0 aH_ rfl rfl rfl rfl rfl rfl (a_ (h_ rfl) rfl (e_ (b_ rfl (D_ ?_))))))))
          exact fP_ ⟨((Cl.mk [] none 0 [] none 0), 3), em_ hchk hb0 hb1 hm0' (by rw [if_pos (by assumption)]) (cx_ hvk hL hf (j + 1) rfl).1 (cx_ hvk hL hf (j + 1) rfl).2.2.1 (by omega)⟩ (fun aa v h1 h2 => eS_ (us := Cl.cells (Cl.mk [] none 0 [] none 0)) 0 cU_ bE_ aH_ rfl rfl rfl rfl aa v h1 h2) X_ (fun v _ h => by exact ⟨.inl rfl, .inl rfl, trivial⟩)
     ·
      refine a_ (cc_ (dh_ dW_ hP_ rfl rfl (by omega) (by omega)) (show _ = zp_ b5 3 from by rw [hk]; rfl)) rfl (a_ (o_ 4 nN_ rfl rfl rfl) rfl (a_ (at_ bn_ rfl) rfl (a_ (g_ rfl) rfl (e_ (b_ rfl (S_ (er_ (H' := ((b1, .cells #[.slice none 0 0, .slice none 0 0] 28 (0, 0)) :: ((b5, .cells #[.slice none 0 0, .slice (some ⟨r1, 0, none⟩) 6 6, .slice (some ⟨r2, 0, none⟩) 4 4, .slice (some ⟨r3, 0, none⟩) 2 2] 98 (0, 0)) :: ((b6, .cells (Fc.cells f).toArray 41 (0, 0)) :: (Ha1 ++ (Hu1 ++ (Ho1 ++ (Hi1 ++ (Hr1 ++ (Hm1 ++ ((b4, .cells #[sv1] 26 (0, 0)) :: (kb, .map es1 ce1) :: ([(fb, .map ef1 cf1)] ++ Hq1)))))))))))) (l_ (c_ (c_ (c_ i_))) (l_ (c_ (c_ (c_ i_))) (l_ (c_ (c_ i_)) (y_ (c_ (c_ q_)) (y_ (c_ (c_ q_)) (y_ (c_ (c_ q_)) (y_ (c_ (c_ q_)) (y_ (c_ (c_ q_)) (y_ (c_ (c_ q_)) (l_ i_ (l_ i_ (y_ q_ be_)))))))))))) (fun v _ h => h) ?_)))))))
      refine aV_ (ι := {y : Nat × Hp // y.1 ≤ 2 ∧ ((EA m hm (EngB.mk g pb ab ub ob ib rb sb lad lcap (ak_ (uniq [] p))) b2 b3 b4 kb fb)).St (rls (bB_ m) idk (aP_ (uniq [] p)) (Ix.add x (decide (f ∈ fm)) f) f y.1 (q, fm)).1 (rls (bB_ m) idk (aP_ (uniq [] p)) (Ix.add x (decide (f ∈ fm)) f) f y.1 (q, fm)).2 y.2 ∧ (y.1 = 0 ∨ ((rls (bB_ m) idk (aP_ (uniq [] p)) (Ix.add x (decide (f ∈ fm)) f) f y.1 (q, fm)).1).length ≤ m)}) (fun y => [(0, .slice pad (List.length p) pcap), (1, .int .i64 bu), (4, zp_ b1 0), (7, zp_ b2 0), (8, zp_ b3 0), (9, zp_ b4 0), (10, .slice aad (List.length (atS p)) acap), (11, zp_ b5 0), (12, .int .i64 (n : Int)), (13, zp_ b6 0), (60, .slice (some ⟨r3, 0, none⟩) 2 2), (61, .int .i64 2), (62, .int .i64 (y.1.1 : Int))]) (fun y => ((b1, .cells #[.slice none 0 0, .slice none 0 0] 28 (0, 0)) :: ((b5, .cells #[.slice none 0 0, .slice (some ⟨r1, 0, none⟩) 6 6, .slice (some ⟨r2, 0, none⟩) 4 4, .slice (some ⟨r3, 0, none⟩) 2 2] 98 (0, 0)) :: ((b6, .cells (Fc.cells f).toArray 41 (0, 0)) :: (Ha1 ++ (Hu1 ++ (Ho1 ++ (Hi1 ++ (Hr1 ++ (Hm1 ++ y.1.2)))))))))) (fun y => [bb_ (some ⟨r1, 0, none⟩) (List.flatMap fvC (rlV g 1)), bb_ (some ⟨r2, 0, none⟩) (List.flatMap fvC (rlV g 2)), bb_ (some ⟨r3, 0, none⟩) (List.flatMap fvC (rlV g 3)), bb_ aad (List.flatMap bf_ (atS p)), mlF Tryz.prog 171 Ky.val Pc.cells pb (aP_ (uniq [] p)) adr, ct_ g (.cells #[.map (some pb), .slice lad (List.length (ak_ (uniq [] p))) lcap, .map (some kb), .func (.func 55) #[] #[zp_ b2 0, zp_ b3 0, zp_ b4 0], .map (some ab), .map (some ub), .map (some ob), .map (some ib), .map (some rb), .map (some sb), .map (some fb)] 94 (0, 0)), ct_ b3 (.cells #[.int .i64 (m : Int)] 3 (0, 0)), ct_ b2 (.cells #[zp_ g 0] 85 (0, 0)), bb_ lad (List.flatMap bf_ (ak_ (uniq [] p))), bb_ pad (List.flatMap Pc.cells p), gG_]) (fun y => 2 - y.1.1) ⟨((0 : Nat), ((b4, .cells #[sv1] 26 (0, 0)) :: (kb, .map es1 ce1) :: ([(fb, .map ef1 cf1)] ++ Hq1))), by omega, by exact ⟨sv1, es1, ce1, ef1, cf1, qf1, Hq1, rfl, hrQ1, hEk1, hEf1, hqf1⟩, .inl rfl⟩ ⟨rfl, rfl, rfl, rfl, rfl, rfl, rfl, rfl, rfl, rfl, rfl, rfl, rfl, trivial⟩ (l_ i_ (l_ i_ (l_ i_ (y_ q_ (y_ q_ (y_ q_ (y_ q_ (y_ q_ (y_ q_ be_))))))))) (fun _ _ h => h) ?_
      rintro ⟨⟨j, Hs⟩, hj, hS2, hjm⟩
      dsimp only at hj hS2 hjm ⊢
      refine f_ (d_ (z_ (aC_ rfl rfl) rfl fun r15 hr15 => ?_))
      refine e_ (b_ rfl (f_ ?_))
      cases r15
      ·
       replace hr15 := of_decide_eq_false hr15
       have ej : j = 2 := by omega
       have hjl : ((rls (bB_ m) idk (aP_ (uniq [] p)) (Ix.add x (decide (f ∈ fm)) f) f j (q, fm)).1).length ≤ m := hjm.resolve_left (by omega)
       rw [ej] at hjl hS2
       refine r_ rfl (ay_ rfl (b_ rfl (d_ (a_ (g_ rfl) rfl (a_ (V_ rfl rfl rfl (am_ (by omega) (by omega))) rfl (a_ (h_ rfl) rfl (e_ (t_ rfl ?_))))))))
       exact ah_ ⟨(n + 1, (rls (bB_ m) idk (aP_ (uniq [] p)) (Ix.add x (decide (f ∈ fm)) f) f 2 (q, fm)).1, (rls (bB_ m) idk (aP_ (uniq [] p)) (Ix.add x (decide (f ∈ fm)) f) f 2 (q, fm)).2, (Ix.add x (decide (f ∈ fm)) f), Ha1, Hu1, Ho1, Hi1, Hr1, Hm1, Hs), (hL_ hvk hL hf (by have e : nrl f = 2 := (by unfold nrl; simp [hk]); rw [e]) (by omega)), (by exact hS2), hI1, (gT_ hz _ f)⟩ (by dsimp only; omega) ⟨rfl, rfl, rfl, rfl, rfl, rfl, rfl, rfl, rfl, trivial⟩ (l_ i_ (l_ i_ (y_ (c_ q_) (y_ (c_ q_) (y_ (c_ q_) (y_ (c_ q_) (y_ (c_ q_) (y_ (c_ q_) ad_)))))))) (fun _ _ h => h)
      ·
       replace hr15 := of_decide_eq_true hr15
       have hlfv : j < List.length (rlV g 3) := by show j < 2; omega
       obtain ⟨fv, hfv⟩ : ∃ e0, (rlV g 3)[j]? = some e0 := ⟨_, List.getElem?_eq_getElem hlfv⟩
       have hmfv : fv ∈ (rlV g 3) := List.mem_of_getElem? hfv
       refine n_ rfl (B_ (b_ rfl (f_ (S_ (f_ (d_ (a_ (aj_ bn_ aR_ rfl rfl (fun v _ h => aO_ (n := 1) ec_ (by decide) (by exact h.2.2.1) hfv) (by omega) (by omega)) rfl (a_ (bA_ (ad := (some ⟨r3, 0, none⟩)) bj_ rfl (fun v _ h => by exact h.2.2.1) (an_ ec_ hfv 0 _ rfl)) rfl (a_ (h_ rfl) rfl ?_)))))))))
       refine e_ (b_ rfl (f_ (d_ (a_ (g_ rfl) rfl (a_ (K_ 2 af_ M_ rfl rfl rfl) rfl ?_)))))
       obtain ⟨nr, rfl, hT⟩ := oo_ (EngB.mk g pb ab ub ob ib rb sb lad lcap (ak_ (uniq [] p))) (EA m hm (EngB.mk g pb ab ub ob ib rb sb lad lcap (ak_ (uniq [] p))) b2 b3 b4 kb fb) (EngA.mk adr (fun _ => (none, 0)) (fun _ => (none, 0)) (fun _ => (none, 0)) (fun _ => (none, 0)) (fun _ => (none, 0)) (fun _ => (none, 0))) (aP_ (uniq [] p)) (Ix.add x (decide (f ∈ fm)) f) f (rls (bB_ m) idk (aP_ (uniq [] p)) (Ix.add x (decide (f ∈ fm)) f) f j (q, fm)).1 (rls (bB_ m) idk (aP_ (uniq [] p)) (Ix.add x (decide (f ∈ fm)) f) f j (q, fm)).2 Hs hS2 Ha1 Hu1 Ho1 Hi1 Hr1 Hm1 hI1 hpl hxl1 hyl1 (fun hk => (fs_ hform hk).2.2) (fun _ y hy => (hvk y (pm9.1 hy).1).num (.inr (pm9.1 hy).2.1)) hk j hfv
       refine aF_ (first := [zp_ g 0]) (vs := [Fc.val f]) (cap := []) hT rfl rfl (iD_ (y_ (c_ (c_ (c_ q_))) (y_ (c_ (c_ (c_ q_))) (y_ (c_ (c_ (c_ q_))) (y_ (c_ (c_ (c_ q_))) (y_ (c_ (c_ (c_ q_))) (y_ (c_ (c_ (c_ q_))) (c_ (c_ ad_))))))))) (fun v _ h => by exact ⟨h.2.2.2.2.2.1, h.2.2.2.2.1, ⟨h.2.2.2.2.2.2.2.1, h.2.2.2.2.2.2.1, h.2.2.2.2.2.1⟩, trivial⟩) rfl fun ⟨Hs3, hS3⟩ => ?_
       refine ap_ hn_ (e_ (b_ rfl (ap_ (aY_ (m_ (m_ (m_ (m_ (m_ (m_ (m_ i_))))))) (aY_ (m_ (m_ (m_ (m_ (m_ (m_ (m_ i_))))))) (cn_ (m_ (m_ (m_ (m_ (m_ (m_ ba_))))))))) (f_ ?_))))
       refine aE_ (by kernel_rfl) ?_
       refine ab_ 0 [0, 1, 2, 3, 4, 5, 6] (by kernel_rfl) (fun _ a b => ⟨a, b⟩) (j_ rfl (Z_ bw_ rfl (fun v _ h => by exact h.2.2.2.2.2.2.2.1) rfl) rfl (j_ rfl (ag_ rfl) rfl (j_ rfl (k_ F_ rfl rfl rfl bv_) rfl (j_ rfl (Z_ bD_ rfl (fun v _ h => by exact h.2.2.2.2.2.1) rfl) rfl (j_ rfl (cc_ (fk_ (E := (EA m hm (EngB.mk g pb ab ub ob ib rb sb lad lcap (ak_ (uniq [] p))) b2 b3 b4 kb fb)) (nw := (rls (bB_ m) idk (aP_ (uniq [] p)) (Ix.add x (decide (f ∈ fm)) f) f (j + 1) (q, fm)).1) (Hs := Hs3) hS3 aS_ rfl (c_ (c_ (c_ (m_ (m_ (m_ (m_ (m_ ba_))))))))) (show _ = Value.int .i64 (List.length (rls (bB_ m) idk (aP_ (uniq [] p)) (Ix.add x (decide (f ∈ fm)) f) f (j + 1) (q, fm)).1 : Int) from rfl)) rfl (j_ rfl (Z_ J_ rfl (fun v _ h => by exact h.2.2.2.2.2.2.1) rfl) rfl ?_))))))
       refine cK_ rfl (bS_ rfl rfl) rfl fun r16 hr16 => ?_
       refine aa_ (Y_ (by kernel_rfl) (b_ rfl ?_))
       cases r16
       ·
        replace hr16 := of_decide_eq_false hr16
        refine r_ rfl (B_ (b_ rfl (d_ (a_ (V_ rfl rfl rfl (am_ (by omega) (by omega))) rfl (a_ (g_ rfl) rfl (e_ (t_ rfl ?_)))))))
        exact ah_ ⟨(j + 1, Hs3), hlfv, by exact hS3, .inr (by dsimp only; omega)⟩ (by dsimp only; omega) ⟨rfl, rfl, rfl, rfl, rfl, rfl, rfl, rfl, rfl, rfl, rfl, rfl, rfl, trivial⟩ (l_ i_ (l_ i_ (l_ i_ (y_ q_ (y_ q_ (y_ q_ (y_ q_ (y_ q_ (y_ q_ be_))))))))) (fun _ _ h => h)
       ·
        replace hr16 := of_decide_eq_true hr16
        refine n_ rfl (ay_ rfl (b_ rfl (f_ (f_ ?_))))
        refine aE_ (by kernel_rfl) ?_
        refine ab_ 0 [0, 1, 2, 3, 4, 5, 6] (by kernel_rfl) (fun _ a b => ⟨a, b⟩) (j_ rfl (Z_ bw_ rfl (fun v _ h => by exact h.2.2.2.2.2.2.2.1) rfl) rfl (j_ rfl (ag_ rfl) rfl (j_ rfl (k_ F_ rfl rfl rfl bv_) rfl (j_ rfl (Z_ bD_ rfl (fun v _ h => by exact h.2.2.2.2.2.1) rfl) rfl (j_ rfl (cc_ (fk_ (E := (EA m hm (EngB.mk g pb ab ub ob ib rb sb lad lcap (ak_ (uniq [] p))) b2 b3 b4 kb fb)) (nw := (rls (bB_ m) idk (aP_ (uniq [] p)) (Ix.add x (decide (f ∈ fm)) f) f (j + 1) (q, fm)).1) (Hs := Hs3) hS3 aS_ rfl (c_ (c_ (c_ (m_ (m_ (m_ (m_ (m_ ba_))))))))) (show _ = Value.int .i64 (List.length (rls (bB_ m) idk (aP_ (uniq [] p)) (Ix.add x (decide (f ∈ fm)) f) f (j + 1) (q, fm)).1 : Int) from rfl)) rfl (j_ rfl (Z_ J_ rfl (fun v _ h => by exact h.2.2.2.2.2.2.1) rfl) rfl ?_))))))
        refine cK_ rfl (bS_ rfl rfl) rfl fun r17 hr17 => ?_
        refine aa_ (Y_ (by kernel_rfl) (b_ rfl ?_))
        cases r17
        ·
         replace hr17 := of_decide_eq_false hr17
         omega
        ·
         replace hr17 := of_decide_eq_true hr17
         refine n_ rfl (f_ (f_ (d_ (a_ (g_ rfl) rfl (z_ (aC_ rfl rfl) rfl fun r18 hr18 => ?_)))))
         refine e_ (b_ rfl ?_)
         cases r18
         ·
          replace hr18 := of_decide_eq_false hr18
          refine r_ rfl (B_ (b_ rfl (f_ (d_ (a_ (ao_ eQ_ rfl rfl) rfl (ae_ 0 aH_ rfl rfl rfl rfl rfl rfl (a_ (h_ rfl) rfl (e_ (b_ rfl ?_)))))))))
          refine D_ ?_
          exact fP_ ⟨((Cl.mk [] none 0 [] none 0), 2), em_ hchk hb0 hb1 hm0' (by rw [if_neg (by assumption)]) (cx_ hvk hL hf (j + 1) rfl).1 (cx_ hvk hL hf (j + 1) rfl).2.2.1 (by omega)⟩ (fun aa v h1 h2 => eS_ (us := Cl.cells (Cl.mk [] none 0 [] none 0)) 0 cU_ bE_ aH_ rfl rfl rfl rfl aa v h1 h2) X_ (fun v _ h => by exact ⟨.inl rfl, .inl rfl, trivial⟩)
         ·
          replace hr18 := of_decide_eq_true hr18
          refine n_ rfl (f_ (d_ (a_ (ao_ eQ_ rfl rfl) rfl (ae_ 0 aH_ rfl rfl rfl rfl rfl rfl (a_ (h_ rfl) rfl (e_ (b_ rfl (D_ ?_))))))))
          exact fP_ ⟨((Cl.mk [] none 0 [] none 0), 3), em_ hchk hb0 hb1 hm0' (by rw [if_pos (by assumption)]) (cx_ hvk hL hf (j + 1) rfl).1 (cx_ hvk hL hf (j + 1) rfl).2.2.1 (by omega)⟩ (fun aa v h1 h2 => eS_ (us := Cl.cells (Cl.mk [] none 0 [] none 0)) 0 cU_ bE_ aH_ rfl rfl rfl rfl aa v h1 h2) X_ (fun v _ h => by exact ⟨.inl rfl, .inl rfl, trivial⟩)
   ·
    replace hr3 := of_decide_eq_true hr3
    refine n_ rfl (f_ (d_ (a_ (ao_ eQ_ rfl rfl) rfl (ae_ 0 aH_ rfl rfl rfl rfl rfl rfl (a_ (h_ rfl) rfl (e_ (b_ rfl (D_ ?_))))))))
    exact fP_ ⟨((Cl.mk [] none 0 [] none 0), 1), ns_ (by assumption) (by omega)⟩ (fun aa v h1 h2 => eS_ (us := Cl.cells (Cl.mk [] none 0 [] none 0)) 0 cU_ bE_ aH_ rfl rfl rfl rfl aa v h1 h2) X_ (fun v _ h => by exact ⟨.inl rfl, .inl rfl, trivial⟩)
  ·
   replace hr2 := of_decide_eq_true hr2
   refine w_ rfl rfl rfl rfl (w_ rfl rfl rfl rfl (a_ (P_ rfl rfl) rfl (e_ (b_ rfl (n_ rfl (f_ (d_ (a_ (ao_ eQ_ rfl rfl) rfl (ae_ 0 aH_ rfl rfl rfl rfl rfl rfl ?_)))))))))
   refine a_ (h_ rfl) rfl (e_ (b_ rfl (D_ ?_)))
   exact fP_ ⟨((Cl.mk [] none 0 [] none 0), 1), ns_ (by assumption) (by omega)⟩ (fun aa v h1 h2 => eS_ (us := Cl.cells (Cl.mk [] none 0 [] none 0)) 0 cU_ bE_ aH_ rfl rfl rfl rfl aa v h1 h2) X_ (fun v _ h => by exact ⟨.inl rfl, .inl rfl, trivial⟩)
 ·
  replace hr1 := bM_ hr1
  refine n_ rfl (f_ (d_ (a_ (ao_ eQ_ rfl rfl) rfl (a_ (g_ rfl) rfl (ae_ 0 aH_ rfl rfl rfl rfl rfl rfl (a_ (h_ rfl) rfl (e_ (b_ rfl (D_ ?_)))))))))
  exact fP_ ⟨((Cl.mk [] none 0 [] none 0), (bX_ p)), rs_ (by assumption)⟩ (fun aa v h1 h2 => eS_ (us := Cl.cells (Cl.mk [] none 0 [] none 0)) 0 cU_ bE_ aH_ rfl rfl rfl rfl aa v h1 h2) X_ (fun v _ h => by exact ⟨.inl rfl, .inl rfl, trivial⟩)
end Go.Proofs.YtpdbbglpbngeiaaGreatDoor
namespace Go.Proofs.YtpdbbglpbngeiaaGreatDoor
open Go Go.Sx Go.Proofs
attribute [local irreducible] Code.wp wpList wpAnyH
open Go.Vs
def dQ_ (f : Fc) : Bool := decide (f = ax_ f.a f.b)
def cy_ (A : List Str) (f : Fc) : Bool :=
  decide (f.a ∈ A) && (if f.kind = 1 then decide (f.b ∈ A) && dQ_ f
    else if f.kind = 2 then decide (f.b ∈ A) && (decide (f.r ≠ []) && decide (f = aN_ f.a f.r f.b))
    else if f.kind = 3 then decide (f.r ≠ []) && (decide (f = aJ_ f.a f.r f.lo f.hi) && (decide (-1099511627776 ≤ f.lo) && (decide (f.lo ≤ f.hi) && decide (f.hi ≤ 1099511627776))))
    else false)
abbrev rt_ (l : List Str) : Prop := l.Pairwise fun x y => x < y
structure ChkC (at' : List Str) (fs : List Fc) : Prop where
  sa : rt_ at'
  sf : Srt fs
  top : [42] ∈ at'
  bot : [33] ∈ at'
  ok : ∀ f ∈ fs, cy_ at' f = true
def sF_ (at' : List Str) (fs : List Fc) : Prop := rt_ at' ∧ Srt fs ∧ [42] ∈ at' ∧ [33] ∈ at' ∧ ∀ f ∈ fs, cy_ at' f = true
instance (at' : List Str) (fs : List Fc) : Decidable (sF_ at' fs) := by unfold sF_; exact inferInstance
theorem jv_ {at' : List Str} {fs : List Fc} : sF_ at' fs ↔ ChkC at' fs := ⟨fun ⟨a, b, c, d, e⟩ => ⟨a, b, c, d, e⟩, fun h => ⟨h.sa, h.sf, h.top, h.bot, h.ok⟩⟩
def dR_ (at' : List Str) (fs : List Fc) : Int := if sF_ at' fs then if 65536 < fs.length then 2 else 0 else 1
theorem ou_ {α : Type} {lt : α → α → Prop} (ht : ∀ {x y z}, lt x y → lt y z → lt x z) {l : List α} {k : Nat} {a b : α} (h : (l.take (k + 1)).Pairwise lt) (ha : l[k]? = some a) (hb : l[k + 1]? = some b) (hab : lt a b) : (l.take (k + 2)).Pairwise lt := by
  rw [List.take_add_one, hb, Option.toList_some, List.pairwise_append]
  refine ⟨h, by simp, fun x hx y hy => ?_⟩
  rw [List.mem_singleton] at hy
  subst hy
  rw [List.take_add_one, ha, Option.toList_some] at h hx
  rcases List.mem_append.1 hx with hx | hx
  · exact ht ((List.pairwise_append.1 h).2.2 x hx a (by simp)) hab
  · rw [List.mem_singleton] at hx; subst hx; exact hab
theorem qC_ {α : Type} {lt : α → α → Prop} {l : List α} {k : Nat} {a b : α} (ha : l[k]? = some a) (hb : l[k + 1]? = some b) (hab : ¬ lt a b) : ¬ l.Pairwise lt := fun h => by
  obtain ⟨h1, h2⟩ := List.getElem?_eq_some_iff.1 ha
  obtain ⟨h3, h4⟩ := List.getElem?_eq_some_iff.1 hb
  have := List.pairwise_iff_getElem.1 h k (k + 1) h1 h3 (by omega)
  rw [h2, h4] at this
  exact hab this
theorem qB_ {α : Type} {lt : α → α → Prop} (l : List α) : (l.take 1).Pairwise lt := by
  cases l <;> simp
theorem oK_ {x y : Fc} : 0 ≤ it_ x y ↔ ¬ x.lt y := by rw [← nl_]; omega
theorem sq_ {x y : Fc} (h : ¬ 0 ≤ it_ x y) : x.lt y := Decidable.byContradiction fun q => h (oK_.2 q)
theorem sL_ {x y : Str} : 0 ≤ Lib.compareBytes x y ↔ ¬ x < y := by rw [← nY_]; omega
theorem cS_lt {x y : Str} (h : ¬ 0 ≤ Lib.compareBytes x y) : x < y := Decidable.byContradiction fun q => h (sL_.2 q)
theorem oE_ (f : Fc) : Fn0 Tryz.prog 86 #[Fc.val f] (.bool (dQ_ f)) := by
  refine R_ Tryz.func86 rfl rfl Tryz.ntmps86 rfl fun v0 => ?_
  refine f_ (d_ (aI_ rfl rfl fun b1 => ?_))
  refine a_ (h_ rfl) rfl (e_ (b_ rfl (f_ ?_)))
  refine aE_ (by kernel_rfl) ?_
  refine ab_ 3 [0, 1, 2, 3, 4] (by kernel_rfl) (fun _ a b => ⟨a, b⟩) (j_ rfl (K_ 0 af_ M_ rfl rfl rfl) rfl (j_ rfl (k_ s_ rfl rfl rfl p_) rfl (j_ rfl (o_ 0 v_ rfl rfl rfl) rfl (j_ rfl (k_ s_ rfl rfl rfl p_) rfl (j_ rfl (o_ 0 v_ rfl rfl rfl) rfl (aa_ (N_ 5 rfl (by kernel_rfl) (Q_ (eX_ (Fc.a f) (Fc.b f)) rfl X_ (fun _ _ _ => by exact trivial) rfl fun _ => ?_))))))))
  refine e_ (t_ rfl (E_ (fun _ a b => ⟨a, b⟩) (ab_ 0 [6, 7] (by kernel_rfl) (fun _ a b => ⟨a, b⟩) ?_)))
  refine cK_ rfl (dS_ (p := f) (q := (ax_ (Fc.a f) (Fc.b f))) rfl rfl) rfl fun r1 hr1 => ?_
  refine j_ rfl (h_ rfl) rfl (aa_ (Y_ (by kernel_rfl) (b_ rfl (D_ ?_))))
  exact ar_ Tryz.results86 () (G_ rfl (by unfold dQ_; exact hr1.symm)) X_ (fun _ _ _ => trivial)
theorem qZ_ (f : Fc) (A : List Str) (mb : Nat) (es : Array MapEntry) (c : Nat) (hE : SetE str es A) : Tri Tryz.prog 73 #[Fc.val f, .map (some mb)] [(mb, .map es c)] [] (fun _ : Unit => .bool (cy_ A f)) (fun _ => [(mb, .map es c)]) (fun _ => []) := by
 refine R_ Tryz.func73 rfl rfl Tryz.ntmps73 rfl fun v0 => ?_
 refine f_ (d_ (aI_ rfl rfl fun b1 => ?_))
 refine a_ (h_ rfl) rfl (e_ (b_ rfl (f_ (f_ (d_ (a_ (g_ rfl) rfl (a_ (k_ s_ rfl rfl rfl p_) rfl (a_ (o_ 0 v_ rfl rfl rfl) rfl (z_ (cP_ (k := (Fc.a f)) fU_ eR_ bV_ rfl rfl hE (fun v h _ => (h.own _ (List.mem_of_getElem? (i := 1) rfl)).1)) rfl fun r1 hr1 => ?_)))))))))
 refine a_ (bg_ rfl) rfl (e_ (b_ rfl ?_))
 cases r1
 ·
  replace hr1 := dF hr1
  refine n_ rfl (f_ (d_ (a_ (h_ rfl) rfl (e_ (b_ rfl (D_ ?_))))))
  exact ar_ cT_ () (G_ rfl (by have p1 := eq_false hr1; simp only [cy_, dQ_, p1, if_true, if_false, decide_true, decide_false, Bool.and_true, Bool.and_false, Bool.true_and, Bool.false_and, Bool.or_true, Bool.or_false, Bool.true_or, Bool.false_or, Bool.not_true, Bool.not_false, ne_eq, not_true_eq_false, not_false_eq_true, true_and, and_true, false_and, and_false, true_or, or_true, false_or, or_false, ite_true, ite_false, Bool.false_eq_true])) (c_ i_) (fun _ _ _ => trivial)
 ·
  replace hr1 := dT hr1
  refine r_ rfl (B_ (b_ rfl (f_ (f_ (d_ (a_ (k_ s_ rfl rfl rfl I_) rfl (a_ (o_ 0 J_ rfl rfl rfl) rfl (e_ (b_ rfl ?_)))))))))
  refine S_ (f_ (d_ (z_ (aA_ rfl rfl) rfl fun r2 hr2 => ?_)))
  refine a_ (h_ rfl) rfl (e_ (b_ rfl ?_))
  cases r2
  ·
   replace hr2 := ne_of_beq_false hr2
   refine r_ rfl (f_ (d_ (z_ (aA_ rfl rfl) rfl fun r3 hr3 => ?_)))
   refine a_ (h_ rfl) rfl (e_ (b_ rfl ?_))
   cases r3
   ·
    replace hr3 := ne_of_beq_false hr3
    refine r_ rfl (f_ (d_ (z_ (aA_ rfl rfl) rfl fun r4 hr4 => ?_)))
    refine a_ (h_ rfl) rfl (e_ (b_ rfl ?_))
    cases r4
    ·
     replace hr4 := ne_of_beq_false hr4
     refine r_ rfl (B_ (b_ rfl (f_ (d_ (a_ (h_ rfl) rfl (e_ (b_ rfl (D_ ?_))))))))
     exact ar_ cT_ () (G_ rfl (by have p1 := eq_true hr1; have p2 := eq_false hr2; have p3 := eq_false hr3; have p4 := eq_false hr4; simp only [cy_, dQ_, p1, p2, p3, p4, if_true, if_false, decide_true, decide_false, Bool.and_true, Bool.and_false, Bool.true_and, Bool.false_and, Bool.or_true, Bool.or_false, Bool.true_or, Bool.false_or, Bool.not_true, Bool.not_false, ne_eq, not_true_eq_false, not_false_eq_true, true_and, and_true, false_and, and_false, true_or, or_true, false_or, or_false, ite_true, ite_false, Bool.false_eq_true])) (c_ i_) (fun _ _ _ => trivial)
    ·
     replace hr4 := eq_of_beq hr4
     refine n_ rfl (f_ ?_)
     refine aE_ (by kernel_rfl) ?_
     refine ab_ 30 [0, 1, 2, 3] (by kernel_rfl) (fun _ a b => ⟨a, b⟩) (j_ rfl (k_ s_ rfl rfl rfl p_) rfl (j_ rfl (o_ 0 v_ rfl rfl rfl) rfl ?_))
     refine cK_ rfl (eG_ rfl rfl) rfl fun r5 hr5 => ?_
     refine j_ rfl (g_ rfl) rfl (aa_ ?_)
     cases r5
     ·
      replace hr5 := bN_ hr5
      refine ab_ 0 [4, 5, 6, 7, 8, 9, 10, 11, 12, 13, 14, 15, 16, 17, 18, 19, 20, 21, 22, 23, 24, 25, 26, 27, 28, 29, 30, 31, 32, 33] (by kernel_rfl) (fun _ a b => ⟨a, b⟩) (aL_ rfl rfl rfl rfl rfl (aL_ rfl rfl rfl rfl rfl (aL_ rfl rfl rfl rfl rfl (aL_ rfl rfl rfl rfl rfl (aL_ rfl rfl rfl rfl rfl (aL_ rfl rfl rfl rfl rfl (aL_ rfl rfl rfl rfl rfl (aL_ rfl rfl rfl rfl rfl (aL_ rfl rfl rfl rfl rfl ?_)))))))))
      refine aL_ rfl rfl rfl rfl rfl (aL_ rfl rfl rfl rfl rfl (j_ rfl (H_ rfl rfl) rfl (j_ rfl (g_ rfl) rfl (aL_ rfl rfl rfl rfl rfl (aL_ rfl rfl rfl rfl rfl (aL_ rfl rfl rfl rfl rfl (j_ rfl (H_ rfl rfl) rfl (j_ rfl (g_ rfl) rfl (aL_ rfl rfl rfl rfl rfl ?_)))))))))
      refine aL_ rfl rfl rfl rfl rfl (aL_ rfl rfl rfl rfl rfl (aL_ rfl rfl rfl rfl rfl (aL_ rfl rfl rfl rfl rfl (j_ rfl (H_ rfl rfl) rfl (j_ rfl (g_ rfl) rfl (aL_ rfl rfl rfl rfl rfl (aL_ rfl rfl rfl rfl rfl (aL_ rfl rfl rfl rfl rfl (j_ rfl (H_ rfl rfl) rfl ?_)))))))))
      refine j_ rfl (h_ rfl) rfl (aa_ (Y_ (by kernel_rfl) (b_ rfl (D_ ?_))))
      exact ar_ cT_ () (G_ rfl (by have p1 := eq_true hr1; have p2 := eq_false hr2; have p3 := eq_false hr3; have p4 := eq_true hr4; have p5 := eq_true hr5; simp only [cy_, dQ_, p1, p2, p3, p4, p5, if_true, if_false, decide_true, decide_false, Bool.and_true, Bool.and_false, Bool.true_and, Bool.false_and, Bool.or_true, Bool.or_false, Bool.true_or, Bool.false_or, Bool.not_true, Bool.not_false, ne_eq, not_true_eq_false, not_false_eq_true, true_and, and_true, false_and, and_false, true_or, or_true, false_or, or_false, ite_true, ite_false, Bool.false_eq_true])) (c_ i_) (fun _ _ _ => trivial)
     ·
      replace hr5 := bM_ hr5
      refine ab_ 21 [4, 5, 6, 7, 8, 9, 10, 11, 12] (by kernel_rfl) (fun _ a b => ⟨a, b⟩) (aB_ rfl rfl rfl (K_ 0 af_ M_ rfl rfl rfl) rfl (aB_ rfl rfl rfl (k_ s_ rfl rfl rfl p_) rfl (aB_ rfl rfl rfl (o_ 0 v_ rfl rfl rfl) rfl (aB_ rfl rfl rfl (k_ s_ rfl rfl rfl p_) rfl (aB_ rfl rfl rfl (o_ 0 v_ rfl rfl rfl) rfl (aB_ rfl rfl rfl (k_ s_ rfl rfl rfl I_) rfl (aB_ rfl rfl rfl (o_ 0 J_ rfl rfl rfl) rfl (aB_ rfl rfl rfl (k_ s_ rfl rfl rfl I_) rfl (aB_ rfl rfl rfl (o_ 0 J_ rfl rfl rfl) rfl ?_)))))))))
      refine aa_ (N_ 13 rfl (by kernel_rfl) (u_ rfl rfl (Q_ (iz_ (Fc.a f) (Fc.r f) (Fc.lo f) (Fc.hi f)) rfl X_ (fun _ _ _ => by exact trivial) rfl fun _ => ?_)))
      refine e_ (t_ rfl (E_ (fun _ a b => ⟨a, b⟩) (ab_ 17 [14, 15, 16] (by kernel_rfl) (fun _ a b => ⟨a, b⟩) ?_)))
      refine dc_ rfl rfl rfl (dS_ (p := f) (q := (aJ_ (Fc.a f) (Fc.r f) (Fc.lo f) (Fc.hi f))) rfl rfl) rfl fun r6 hr6 => ?_
      refine j_ rfl (P_ rfl rfl) rfl (j_ rfl (g_ rfl) rfl (aa_ ?_))
      cases r6
      ·
       replace hr6 := of_decide_eq_false hr6
       refine ab_ 0 [17, 18, 19, 20, 21, 22, 23, 24, 25, 26, 27, 28, 29, 30, 31, 32, 33] (by kernel_rfl) (fun _ a b => ⟨a, b⟩) (aL_ rfl rfl rfl rfl rfl (aL_ rfl rfl rfl rfl rfl (aL_ rfl rfl rfl rfl rfl (j_ rfl (H_ rfl rfl) rfl (j_ rfl (g_ rfl) rfl (aL_ rfl rfl rfl rfl rfl (aL_ rfl rfl rfl rfl rfl (aL_ rfl rfl rfl rfl rfl (aL_ rfl rfl rfl rfl rfl ?_)))))))))
       refine aL_ rfl rfl rfl rfl rfl (j_ rfl (H_ rfl rfl) rfl (j_ rfl (g_ rfl) rfl (aL_ rfl rfl rfl rfl rfl (aL_ rfl rfl rfl rfl rfl (aL_ rfl rfl rfl rfl rfl (j_ rfl (H_ rfl rfl) rfl (j_ rfl (h_ rfl) rfl (aa_ (Y_ (by kernel_rfl) ?_)))))))))
       refine b_ rfl (D_ ?_)
       exact ar_ cT_ () (G_ rfl (by have p1 := eq_true hr1; have p2 := eq_false hr2; have p3 := eq_false hr3; have p4 := eq_true hr4; have p5 := eq_false hr5; have p6 := eq_false hr6; simp only [cy_, dQ_, p1, p2, p3, p4, p5, p6, if_true, if_false, decide_true, decide_false, Bool.and_true, Bool.and_false, Bool.true_and, Bool.false_and, Bool.or_true, Bool.or_false, Bool.true_or, Bool.false_or, Bool.not_true, Bool.not_false, ne_eq, not_true_eq_false, not_false_eq_true, true_and, and_true, false_and, and_false, true_or, or_true, false_or, or_false, ite_true, ite_false, Bool.false_eq_true])) (c_ i_) (fun _ _ _ => trivial)
      ·
       replace hr6 := of_decide_eq_true hr6
       refine ab_ 12 [17, 18, 19, 20, 21] (by kernel_rfl) (fun _ a b => ⟨a, b⟩) (aB_ rfl rfl rfl (k_ s_ rfl rfl rfl I_) rfl (aB_ rfl rfl rfl (o_ 0 J_ rfl rfl rfl) rfl ?_))
       refine dc_ rfl rfl rfl (co_ rfl rfl) rfl fun r7 hr7 => ?_
       refine j_ rfl (P_ rfl rfl) rfl (j_ rfl (g_ rfl) rfl (aa_ ?_))
       cases r7
       ·
        replace hr7 := of_decide_eq_false hr7
        refine ab_ 0 [22, 23, 24, 25, 26, 27, 28, 29, 30, 31, 32, 33] (by kernel_rfl) (fun _ a b => ⟨a, b⟩) (aL_ rfl rfl rfl rfl rfl (aL_ rfl rfl rfl rfl rfl (aL_ rfl rfl rfl rfl rfl (aL_ rfl rfl rfl rfl rfl (aL_ rfl rfl rfl rfl rfl (j_ rfl (H_ rfl rfl) rfl (j_ rfl (g_ rfl) rfl (aL_ rfl rfl rfl rfl rfl (aL_ rfl rfl rfl rfl rfl ?_)))))))))
        refine aL_ rfl rfl rfl rfl rfl (j_ rfl (H_ rfl rfl) rfl (j_ rfl (h_ rfl) rfl (aa_ (Y_ (by kernel_rfl) (b_ rfl (D_ ?_))))))
        exact ar_ cT_ () (G_ rfl (by have p1 := eq_true hr1; have p2 := eq_false hr2; have p3 := eq_false hr3; have p4 := eq_true hr4; have p5 := eq_false hr5; have p6 := eq_true hr6; have p7 := eq_false hr7; simp only [cy_, dQ_, p1, p2, p3, p4, p5, p6, p7, if_true, if_false, decide_true, decide_false, Bool.and_true, Bool.and_false, Bool.true_and, Bool.false_and, Bool.or_true, Bool.or_false, Bool.true_or, Bool.false_or, Bool.not_true, Bool.not_false, ne_eq, not_true_eq_false, not_false_eq_true, true_and, and_true, false_and, and_false, true_or, or_true, false_or, or_false, ite_true, ite_false, Bool.false_eq_true])) (c_ i_) (fun _ _ _ => trivial)
       ·
        replace hr7 := of_decide_eq_true hr7
        refine ab_ 5 [22, 23, 24, 25, 26, 27, 28] (by kernel_rfl) (fun _ a b => ⟨a, b⟩) (aB_ rfl rfl rfl (k_ s_ rfl rfl rfl I_) rfl (aB_ rfl rfl rfl (o_ 0 J_ rfl rfl rfl) rfl (aB_ rfl rfl rfl (k_ s_ rfl rfl rfl I_) rfl (aB_ rfl rfl rfl (o_ 0 J_ rfl rfl rfl) rfl ?_))))
        refine dc_ rfl rfl rfl (co_ rfl rfl) rfl fun r8 hr8 => ?_
        refine j_ rfl (P_ rfl rfl) rfl (j_ rfl (g_ rfl) rfl (aa_ ?_))
        cases r8
        ·
         replace hr8 := of_decide_eq_false hr8
         refine ab_ 0 [29, 30, 31, 32, 33] (by kernel_rfl) (fun _ a b => ⟨a, b⟩) (aL_ rfl rfl rfl rfl rfl (aL_ rfl rfl rfl rfl rfl (aL_ rfl rfl rfl rfl rfl (j_ rfl (H_ rfl rfl) rfl (j_ rfl (h_ rfl) rfl (aa_ (Y_ (by kernel_rfl) (b_ rfl (D_ ?_)))))))))
         exact ar_ cT_ () (G_ rfl (by have p1 := eq_true hr1; have p2 := eq_false hr2; have p3 := eq_false hr3; have p4 := eq_true hr4; have p5 := eq_false hr5; have p6 := eq_true hr6; have p7 := eq_true hr7; have p8 := eq_false hr8; simp only [cy_, dQ_, p1, p2, p3, p4, p5, p6, p7, p8, if_true, if_false, decide_true, decide_false, Bool.and_true, Bool.and_false, Bool.true_and, Bool.false_and, Bool.or_true, Bool.or_false, Bool.true_or, Bool.false_or, Bool.not_true, Bool.not_false, ne_eq, not_true_eq_false, not_false_eq_true, true_and, and_true, false_and, and_false, true_or, or_true, false_or, or_false, ite_true, ite_false, Bool.false_eq_true])) (c_ i_) (fun _ _ _ => trivial)
        ·
         replace hr8 := of_decide_eq_true hr8
         refine ab_ 0 [29, 30, 31, 32, 33] (by kernel_rfl) (fun _ a b => ⟨a, b⟩) (aB_ rfl rfl rfl (k_ s_ rfl rfl rfl I_) rfl (aB_ rfl rfl rfl (o_ 0 J_ rfl rfl rfl) rfl ?_))
         refine dc_ rfl rfl rfl (co_ rfl rfl) rfl fun r9 hr9 => ?_
         refine j_ rfl (P_ rfl rfl) rfl (j_ rfl (h_ rfl) rfl (aa_ (Y_ (by kernel_rfl) (b_ rfl (D_ ?_)))))
         exact ar_ cT_ () (G_ rfl (by have p1 := eq_true hr1; have p2 := eq_false hr2; have p3 := eq_false hr3; have p4 := eq_true hr4; have p5 := eq_false hr5; have p6 := eq_true hr6; have p7 := eq_true hr7; have p8 := eq_true hr8; rw [← hr9]; simp only [cy_, dQ_, p1, p2, p3, p4, p5, p6, p7, p8, if_true, if_false, decide_true, decide_false, Bool.and_true, Bool.and_false, Bool.true_and, Bool.false_and, Bool.or_true, Bool.or_false, Bool.true_or, Bool.false_or, Bool.not_true, Bool.not_false, ne_eq, not_true_eq_false, not_false_eq_true, true_and, and_true, false_and, and_false, true_or, or_true, false_or, or_false, ite_true, ite_false, Bool.false_eq_true])) (c_ i_) (fun _ _ _ => trivial)
   ·
    replace hr3 := eq_of_beq hr3
    refine n_ rfl (f_ ?_)
    refine aE_ (by kernel_rfl) ?_
    refine ab_ 16 [0, 1, 2, 3, 4] (by kernel_rfl) (fun _ a b => ⟨a, b⟩) (j_ rfl (g_ rfl) rfl (j_ rfl (k_ s_ rfl rfl rfl p_) rfl (j_ rfl (o_ 0 v_ rfl rfl rfl) rfl ?_)))
    refine cK_ rfl (cP_ (k := (Fc.b f)) fU_ eR_ bV_ rfl rfl hE (fun v h _ => (h.own _ (List.mem_of_getElem? (i := 1) rfl)).1)) rfl fun r10 hr10 => ?_
    refine j_ rfl (g_ rfl) rfl (aa_ ?_)
    cases r10
    ·
     replace hr10 := dF hr10
     refine ab_ 0 [5, 6, 7, 8, 9, 10, 11, 12, 13, 14, 15, 16, 17, 18, 19, 20] (by kernel_rfl) (fun _ a b => ⟨a, b⟩) (aL_ rfl rfl rfl rfl rfl (aL_ rfl rfl rfl rfl rfl (aL_ rfl rfl rfl rfl rfl (j_ rfl (H_ rfl rfl) rfl (j_ rfl (g_ rfl) rfl (aL_ rfl rfl rfl rfl rfl (aL_ rfl rfl rfl rfl rfl (aL_ rfl rfl rfl rfl rfl (aL_ rfl rfl rfl rfl rfl ?_)))))))))
     refine aL_ rfl rfl rfl rfl rfl (aL_ rfl rfl rfl rfl rfl (aL_ rfl rfl rfl rfl rfl (aL_ rfl rfl rfl rfl rfl (aL_ rfl rfl rfl rfl rfl (j_ rfl (H_ rfl rfl) rfl (j_ rfl (h_ rfl) rfl (aa_ (Y_ (by kernel_rfl) (b_ rfl ?_)))))))))
     refine D_ ?_
     exact ar_ cT_ () (G_ rfl (by have p1 := eq_true hr1; have p2 := eq_false hr2; have p3 := eq_true hr3; have p4 := eq_false hr10; simp only [cy_, dQ_, p1, p2, p3, p4, if_true, if_false, decide_true, decide_false, Bool.and_true, Bool.and_false, Bool.true_and, Bool.false_and, Bool.or_true, Bool.or_false, Bool.true_or, Bool.false_or, Bool.not_true, Bool.not_false, ne_eq, not_true_eq_false, not_false_eq_true, true_and, and_true, false_and, and_false, true_or, or_true, false_or, or_false, ite_true, ite_false, Bool.false_eq_true])) (c_ i_) (fun _ _ _ => trivial)
    ·
     replace hr10 := dT hr10
     refine ab_ 11 [5, 6, 7, 8, 9] (by kernel_rfl) (fun _ a b => ⟨a, b⟩) (aB_ rfl rfl rfl (k_ s_ rfl rfl rfl p_) rfl (aB_ rfl rfl rfl (o_ 0 v_ rfl rfl rfl) rfl ?_))
     refine dc_ rfl rfl rfl (eG_ rfl rfl) rfl fun r11 hr11 => ?_
     refine j_ rfl (P_ rfl rfl) rfl (j_ rfl (g_ rfl) rfl (aa_ ?_))
     cases r11
     ·
      replace hr11 := bN_ hr11
      refine ab_ 0 [10, 11, 12, 13, 14, 15, 16, 17, 18, 19, 20] (by kernel_rfl) (fun _ a b => ⟨a, b⟩) (aL_ rfl rfl rfl rfl rfl (aL_ rfl rfl rfl rfl rfl (aL_ rfl rfl rfl rfl rfl (aL_ rfl rfl rfl rfl rfl (aL_ rfl rfl rfl rfl rfl (aL_ rfl rfl rfl rfl rfl (aL_ rfl rfl rfl rfl rfl (aL_ rfl rfl rfl rfl rfl (aL_ rfl rfl rfl rfl rfl ?_)))))))))
      refine j_ rfl (H_ rfl rfl) rfl (j_ rfl (h_ rfl) rfl (aa_ (Y_ (by kernel_rfl) (b_ rfl (D_ ?_)))))
      exact ar_ cT_ () (G_ rfl (by have p1 := eq_true hr1; have p2 := eq_false hr2; have p3 := eq_true hr3; have p4 := eq_true hr10; have p5 := eq_true hr11; simp only [cy_, dQ_, p1, p2, p3, p4, p5, if_true, if_false, decide_true, decide_false, Bool.and_true, Bool.and_false, Bool.true_and, Bool.false_and, Bool.or_true, Bool.or_false, Bool.true_or, Bool.false_or, Bool.not_true, Bool.not_false, ne_eq, not_true_eq_false, not_false_eq_true, true_and, and_true, false_and, and_false, true_or, or_true, false_or, or_false, ite_true, ite_false, Bool.false_eq_true])) (c_ i_) (fun _ _ _ => trivial)
     ·
      replace hr11 := bM_ hr11
      refine ab_ 4 [10, 11, 12, 13, 14, 15, 16] (by kernel_rfl) (fun _ a b => ⟨a, b⟩) (aB_ rfl rfl rfl (K_ 0 af_ M_ rfl rfl rfl) rfl (aB_ rfl rfl rfl (k_ s_ rfl rfl rfl p_) rfl (aB_ rfl rfl rfl (o_ 0 v_ rfl rfl rfl) rfl (aB_ rfl rfl rfl (k_ s_ rfl rfl rfl p_) rfl (aB_ rfl rfl rfl (o_ 0 v_ rfl rfl rfl) rfl (aB_ rfl rfl rfl (k_ s_ rfl rfl rfl p_) rfl (aB_ rfl rfl rfl (o_ 0 v_ rfl rfl rfl) rfl (aa_ (N_ 17 rfl (by kernel_rfl) ?_)))))))))
      refine u_ rfl rfl (Q_ (iI_ (Fc.a f) (Fc.r f) (Fc.b f)) rfl X_ (fun _ _ _ => by exact trivial) rfl fun _ => ?_)
      refine e_ (t_ rfl (E_ (fun _ a b => ⟨a, b⟩) (ab_ 0 [18, 19, 20] (by kernel_rfl) (fun _ a b => ⟨a, b⟩) ?_)))
      refine dc_ rfl rfl rfl (dS_ (p := f) (q := (aN_ (Fc.a f) (Fc.r f) (Fc.b f))) rfl rfl) rfl fun r12 hr12 => ?_
      refine j_ rfl (P_ rfl rfl) rfl (j_ rfl (h_ rfl) rfl (aa_ (Y_ (by kernel_rfl) (b_ rfl (D_ ?_)))))
      exact ar_ cT_ () (G_ rfl (by have p1 := eq_true hr1; have p2 := eq_false hr2; have p3 := eq_true hr3; have p4 := eq_true hr10; have p5 := eq_false hr11; rw [← hr12]; simp only [cy_, dQ_, p1, p2, p3, p4, p5, if_true, if_false, decide_true, decide_false, Bool.and_true, Bool.and_false, Bool.true_and, Bool.false_and, Bool.or_true, Bool.or_false, Bool.true_or, Bool.false_or, Bool.not_true, Bool.not_false, ne_eq, not_true_eq_false, not_false_eq_true, true_and, and_true, false_and, and_false, true_or, or_true, false_or, or_false, ite_true, ite_false, Bool.false_eq_true])) (c_ i_) (fun _ _ _ => trivial)
  ·
   replace hr2 := eq_of_beq hr2
   refine n_ rfl (f_ (d_ (a_ (g_ rfl) rfl (a_ (k_ s_ rfl rfl rfl p_) rfl (a_ (o_ 0 v_ rfl rfl rfl) rfl (z_ (cP_ (k := (Fc.b f)) fU_ eR_ bV_ rfl rfl hE (fun v h _ => (h.own _ (List.mem_of_getElem? (i := 1) rfl)).1)) rfl fun r13 hr13 => ?_))))))
   refine a_ (g_ rfl) rfl ?_
   cases r13
   ·
    replace hr13 := dF hr13
    refine w_ rfl rfl rfl rfl (w_ rfl rfl rfl rfl (a_ (H_ rfl rfl) rfl (a_ (h_ rfl) rfl (e_ (b_ rfl (D_ ?_))))))
    exact ar_ cT_ () (G_ rfl (by have p1 := eq_true hr1; have p2 := eq_true hr2; have p3 := eq_false hr13; simp only [cy_, dQ_, p1, p2, p3, if_true, if_false, decide_true, decide_false, Bool.and_true, Bool.and_false, Bool.true_and, Bool.false_and, Bool.or_true, Bool.or_false, Bool.true_or, Bool.false_or, Bool.not_true, Bool.not_false, ne_eq, not_true_eq_false, not_false_eq_true, true_and, and_true, false_and, and_false, true_or, or_true, false_or, or_false, ite_true, ite_false, Bool.false_eq_true])) (c_ i_) (fun _ _ _ => trivial)
   ·
    replace hr13 := dT hr13
    refine u_ rfl rfl (a_ (K_ 0 af_ M_ rfl rfl rfl) rfl (u_ rfl rfl (au_ (oE_ f) rfl X_ (fun _ _ _ => by exact trivial) rfl fun r14 hr14 => ?_)))
    refine a_ (P_ rfl rfl) rfl (a_ (h_ rfl) rfl (e_ (b_ rfl (D_ ?_))))
    exact ar_ cT_ () (G_ rfl (by have p1 := eq_true hr1; have p2 := eq_true hr2; have p3 := eq_true hr13; rw [← hr14]; simp only [cy_, p1, p2, p3, if_true, if_false, decide_true, decide_false, Bool.and_true, Bool.and_false, Bool.true_and, Bool.false_and, Bool.or_true, Bool.or_false, Bool.true_or, Bool.false_or, Bool.not_true, Bool.not_false, ne_eq, not_true_eq_false, not_false_eq_true, true_and, and_true, false_and, and_false, true_or, or_true, false_or, or_false, ite_true, ite_false, Bool.false_eq_true])) (c_ i_) (fun _ _ _ => trivial)
theorem incS_c (l : List Str) (ad : Option Addr) (cap : Nat) (hl : l.length ≤ 1000000000000) : Tri Tryz.prog 70 #[.slice ad (List.length l) cap, .func (.func 71) #[] #[]] [] [bb_ ad (List.flatMap bf_ l)] (fun _ : Unit => .bool (decide (l.Pairwise (fun x y => x < y)))) (fun _ => []) (fun _ => []) := by
  refine R_ Tryz.func70 rfl rfl Tryz.ntmps70 rfl fun v0 => ?_
  refine f_ (d_ (a_ (h_ rfl) rfl (e_ (b_ rfl (f_ (f_ (d_ (a_ (h_ rfl) rfl (e_ ?_)))))))))
  refine b_ rfl (S_ ?_)
  refine aV_ (ι := {y : Nat // (l.take (y + 1)).Pairwise (fun x y => x < y)}) (fun y => [(0, .slice ad (List.length l) cap), (1, .func (.func 71) #[] #[]), (5, .int .i64 ((y.1 + 1 : Nat) : Int))]) (fun y => ([])) (fun y => [bb_ ad (List.flatMap bf_ l)]) (fun y => l.length - y.1) ⟨(0 : Nat), qB_ l⟩ ⟨rfl, rfl, rfl, trivial⟩ X_ (fun _ _ h => h) ?_
  rintro ⟨k, hk⟩
  dsimp only at hk ⊢
  refine f_ (f_ (d_ (a_ (g_ rfl) rfl (a_ (g_ rfl) rfl (a_ (at_ L_ rfl) rfl (z_ (aC_ rfl rfl) rfl fun r1 hr1 => ?_))))))
  refine e_ (b_ rfl ?_)
  cases r1
  · skip
    replace hr1 := of_decide_eq_false hr1
    refine r_ rfl (ay_ rfl (b_ rfl (f_ (d_ (a_ (h_ rfl) rfl (e_ (b_ rfl (D_ ?_))))))))
    exact ar_ Tryz.results70 () (G_ rfl (by symm; apply decide_eq_true; rwa [List.take_of_length_le (by omega)] at hk)) X_ (fun _ _ _ => trivial)
  · skip
    replace hr1 := of_decide_eq_true hr1
    have hlx1 : k < List.length l := by omega
    obtain ⟨x1, hx1⟩ : ∃ e0, l[k]? = some e0 := ⟨_, List.getElem?_eq_getElem hlx1⟩
    have hmx1 : x1 ∈ l := List.mem_of_getElem? hx1
    have hlx2 : (k + 1 : Nat) < List.length l := by omega
    obtain ⟨x2, hx2⟩ : ∃ e0, l[(k + 1 : Nat)]? = some e0 := ⟨_, List.getElem?_eq_getElem hlx2⟩
    have hmx2 : x2 ∈ l := List.mem_of_getElem? hx2
    refine n_ rfl (B_ (b_ rfl (f_ (S_ (f_ ?_)))))
    refine aE_ (by kernel_rfl) ?_
    refine ab_ 2 [0, 1, 2, 3, 4, 5, 6, 7, 8, 9] (by kernel_rfl) (fun _ a b => ⟨dH_ a, b⟩) (j_ rfl (g_ rfl) rfl (j_ rfl (g_ rfl) rfl (j_ rfl (g_ rfl) rfl (j_ rfl (cc_ (V_ rfl rfl rfl (am_ (by omega) (by omega))) (show Value.int .i64 (((k + 1 : Nat) : Int) - 1) = Value.int .i64 (k : Int) from congrArg _ (by omega))) rfl (j_ rfl (aj_ L_ p_ rfl rfl (fun v _ h => aO_ (n := 1) aX_ (by decide) (by exact h.1) hx1) (by omega) (by first | omega | (simp; done))) rfl (j_ rfl (bA_ (ad := ad) v_ rfl (fun v _ h => by exact h.1) (an_ aX_ hx1 0 _ rfl)) rfl (j_ rfl (g_ rfl) rfl (j_ rfl (g_ rfl) rfl (j_ rfl (aj_ L_ p_ rfl rfl (fun v _ h => aO_ (n := 1) aX_ (by decide) (by exact h.1) hx2) (by omega) (by first | omega | (simp; done))) rfl ?_)))))))))
    refine j_ rfl (bA_ (ad := ad) v_ rfl (fun v _ h => by exact h.1) (an_ aX_ hx2 0 _ rfl)) rfl (aa_ (N_ 10 rfl (by kernel_rfl) (aF_ (is_ x1 x2) rfl rfl X_ (fun _ _ _ => by exact trivial) rfl fun _ => ?_)))
    refine e_ (t_ rfl (E_ (fun _ a b => ⟨dH_ a, b⟩) (ab_ 0 [11] (by kernel_rfl) (fun _ a b => ⟨dH_ a, b⟩) ?_)))
    refine cK_ rfl (dy_ rfl rfl) rfl fun r2 hr2 => ?_
    refine aa_ (Y_ (by kernel_rfl) (b_ rfl ?_))
    cases r2
    · skip
      replace hr2 := of_decide_eq_false hr2
      refine r_ rfl (B_ (b_ rfl (d_ (a_ (g_ rfl) rfl (a_ (V_ rfl rfl rfl (am_ (by omega) (by omega))) rfl (a_ (h_ rfl) rfl (e_ (t_ rfl ?_))))))))
      exact ah_ ⟨k + 1, ou_ (lt := (fun x y => x < y)) List.lt_trans hk hx1 hx2 (cS_lt (x := x1) (y := x2) (by omega))⟩ (by dsimp only; omega) ⟨rfl, rfl, rfl, trivial⟩ X_ (fun _ _ h => h)
    · skip
      replace hr2 := of_decide_eq_true hr2
      refine n_ rfl (f_ (d_ (a_ (h_ rfl) rfl (e_ (b_ rfl (D_ ?_))))))
      exact ar_ Tryz.results70 () (G_ rfl (by symm; apply decide_eq_false; exact qC_ hx1 hx2 (sL_.1 (by omega)))) X_ (fun _ _ _ => trivial)
theorem incF_c (l : List Fc) (ad : Option Addr) (cap : Nat) (hl : l.length ≤ 1000000000000) : Tri Tryz.prog 72 #[.slice ad (List.length l) cap, .func (.func 61) #[] #[]] [] [bb_ ad (List.flatMap Fc.cells l)] (fun _ : Unit => .bool (decide (l.Pairwise Fc.lt))) (fun _ => []) (fun _ => []) := by
  refine R_ Tryz.func72 rfl rfl Tryz.ntmps72 rfl fun v0 => ?_
  refine f_ (d_ (a_ (h_ rfl) rfl (e_ (b_ rfl (f_ (f_ (d_ (a_ (h_ rfl) rfl (e_ ?_)))))))))
  refine b_ rfl (S_ ?_)
  refine aV_ (ι := {y : Nat // (l.take (y + 1)).Pairwise Fc.lt}) (fun y => [(0, .slice ad (List.length l) cap), (1, .func (.func 61) #[] #[]), (5, .int .i64 ((y.1 + 1 : Nat) : Int))]) (fun y => ([])) (fun y => [bb_ ad (List.flatMap Fc.cells l)]) (fun y => l.length - y.1) ⟨(0 : Nat), qB_ l⟩ ⟨rfl, rfl, rfl, trivial⟩ X_ (fun _ _ h => h) ?_
  rintro ⟨k, hk⟩
  dsimp only at hk ⊢
  refine f_ (f_ (d_ (a_ (g_ rfl) rfl (a_ (g_ rfl) rfl (a_ (at_ az_ rfl) rfl (z_ (aC_ rfl rfl) rfl fun r1 hr1 => ?_))))))
  refine e_ (b_ rfl ?_)
  cases r1
  · skip
    replace hr1 := of_decide_eq_false hr1
    refine r_ rfl (ay_ rfl (b_ rfl (f_ (d_ (a_ (h_ rfl) rfl (e_ (b_ rfl (D_ ?_))))))))
    exact ar_ Tryz.results72 () (G_ rfl (by symm; apply decide_eq_true; rwa [List.take_of_length_le (by omega)] at hk)) X_ (fun _ _ _ => trivial)
  · skip
    replace hr1 := of_decide_eq_true hr1
    have hlx1 : k < List.length l := by omega
    obtain ⟨x1, hx1⟩ : ∃ e0, l[k]? = some e0 := ⟨_, List.getElem?_eq_getElem hlx1⟩
    have hmx1 : x1 ∈ l := List.mem_of_getElem? hx1
    have hlx2 : (k + 1 : Nat) < List.length l := by omega
    obtain ⟨x2, hx2⟩ : ∃ e0, l[(k + 1 : Nat)]? = some e0 := ⟨_, List.getElem?_eq_getElem hlx2⟩
    have hmx2 : x2 ∈ l := List.mem_of_getElem? hx2
    refine n_ rfl (B_ (b_ rfl (f_ (S_ (f_ ?_)))))
    refine aE_ (by kernel_rfl) ?_
    refine ab_ 2 [0, 1, 2, 3, 4, 5, 6, 7, 8, 9] (by kernel_rfl) (fun _ a b => ⟨dH_ a, b⟩) (j_ rfl (g_ rfl) rfl (j_ rfl (g_ rfl) rfl (j_ rfl (g_ rfl) rfl (j_ rfl (cc_ (V_ rfl rfl rfl (am_ (by omega) (by omega))) (show Value.int .i64 (((k + 1 : Nat) : Int) - 1) = Value.int .i64 (k : Int) from congrArg _ (by omega))) rfl (j_ rfl (aj_ az_ M_ rfl rfl (fun v _ h => aO_ (n := 6) Fc.cells_len (by decide) (by exact h.1) hx1) (by omega) (by first | omega | (simp; done))) rfl (j_ rfl (aG_ (ad := ad) (us := Fc.cells x1) af_ M_ rfl (fun v _ h => by exact h.1) (Fc.cells_len _) (an_ Fc.cells_len hx1)) rfl (j_ rfl (g_ rfl) rfl (j_ rfl (g_ rfl) rfl (j_ rfl (aj_ az_ M_ rfl rfl (fun v _ h => aO_ (n := 6) Fc.cells_len (by decide) (by exact h.1) hx2) (by omega) (by first | omega | (simp; done))) rfl ?_)))))))))
    refine j_ rfl (aG_ (ad := ad) (us := Fc.cells x2) af_ M_ rfl (fun v _ h => by exact h.1) (Fc.cells_len _) (an_ Fc.cells_len hx2)) rfl (aa_ (N_ 10 rfl (by kernel_rfl) (aF_ (rm_ x1 x2) rfl rfl X_ (fun _ _ _ => by exact trivial) rfl fun _ => ?_)))
    refine e_ (t_ rfl (E_ (fun _ a b => ⟨dH_ a, b⟩) (ab_ 0 [11] (by kernel_rfl) (fun _ a b => ⟨dH_ a, b⟩) ?_)))
    refine cK_ rfl (dy_ rfl rfl) rfl fun r2 hr2 => ?_
    refine aa_ (Y_ (by kernel_rfl) (b_ rfl ?_))
    cases r2
    · skip
      replace hr2 := of_decide_eq_false hr2
      refine r_ rfl (B_ (b_ rfl (d_ (a_ (g_ rfl) rfl (a_ (V_ rfl rfl rfl (am_ (by omega) (by omega))) rfl (a_ (h_ rfl) rfl (e_ (t_ rfl ?_))))))))
      exact ah_ ⟨k + 1, ou_ (lt := Fc.lt) Fc.lt_trans hk hx1 hx2 (sq_ (x := x1) (y := x2) (by omega))⟩ (by dsimp only; omega) ⟨rfl, rfl, rfl, trivial⟩ X_ (fun _ _ h => h)
    · skip
      replace hr2 := of_decide_eq_true hr2
      refine n_ rfl (f_ (d_ (a_ (h_ rfl) rfl (e_ (b_ rfl (D_ ?_))))))
      exact ar_ Tryz.results72 () (G_ rfl (by symm; apply decide_eq_false; exact qC_ hx1 hx2 (oK_.1 (by omega)))) X_ (fun _ _ _ => trivial)
end Go.Proofs.YtpdbbglpbngeiaaGreatDoor
namespace Go.Proofs.YtpdbbglpbngeiaaGreatDoor
open Go Go.Sx Go.Proofs
attribute [local irreducible] Code.wp wpList wpAnyH
open Go.Vs
theorem jD_ {K : Type} [DecidableEq K] {l : List K} {i : Nat} {a : K} (hn : l.Nodup) (h : l[i]? = some a) : (if a ∈ l.take i then l.take i else l.take i ++ [a]) = l.take (i + 1) := by
  have ha : a ∉ l.take i := fun hm => by
    obtain ⟨h1, h2⟩ := List.getElem?_eq_some_iff.1 h
    obtain ⟨j, h3, h4⟩ := List.mem_take_iff_getElem.1 hm
    exact List.pairwise_iff_getElem.1 hn j i (by omega) h1 (by omega) (h4.trans h2.symm)
  rw [if_neg ha, List.take_add_one, h, Option.toList_some]
theorem rt_.nodup {l : List Str} (h : rt_ l) : l.Nodup := by
  unfold List.Nodup
  refine List.Pairwise.imp ?_ h
  intro a b hab e
  exact jq_ b (e ▸ hab)
theorem kz_ {at' : List Str} {fs : List Fc} (h : ¬ ChkC at' fs) : 1 = dR_ at' fs := by unfold dR_; rw [if_neg (fun q => h (jv_.1 q))]
theorem oL_ {at' : List Str} {fs : List Fc} (h : ChkC at' fs) (hl : ¬ 65536 < fs.length) : 0 = dR_ at' fs := by unfold dR_; rw [if_pos (jv_.2 h), if_neg hl]
theorem st_ {at' : List Str} {fs : List Fc} (h : ChkC at' fs) (hl : 65536 < fs.length) : 2 = dR_ at' fs := by unfold dR_; rw [if_pos (jv_.2 h), if_pos hl]
theorem chk_c (c : Cl) (ha : c.atoms.length ≤ 1000000000000) (hf : c.facts.length ≤ 1000000000000) : Tri Tryz.prog 25 #[Cl.val c] [] [bb_ (Cl.aad c) (List.flatMap bf_ (Cl.atoms c)), bb_ (Cl.fad c) (List.flatMap Fc.cells (Cl.facts c))] (fun _ : Unit => .int .i64 (dR_ c.atoms c.facts)) (fun _ => []) (fun _ => []) := by
 refine R_ Tryz.func25 rfl rfl Tryz.ntmps25 rfl fun v0 => ?_
 refine f_ (d_ (aI_ rfl rfl fun b1 => ?_))
 refine a_ (h_ rfl) rfl (e_ (b_ rfl (f_ (f_ (d_ (a_ (k_ bz_ rfl rfl rfl bq_) rfl (a_ (o_ 0 cd_ rfl rfl rfl) rfl (au_ (incS_c (Cl.atoms c) (Cl.aad c) (Cl.acap c) (by omega)) rfl X_ (fun v _ h => by exact ⟨h.1, trivial⟩) rfl fun r1 hr1 => ?_))))))))
 refine a_ (bg_ rfl) rfl (a_ (g_ rfl) rfl ?_)
 cases r1
 ·
  replace hr1 := of_decide_eq_false hr1
  refine w_ rfl rfl rfl rfl (w_ rfl rfl rfl rfl (w_ rfl rfl rfl rfl (w_ rfl rfl rfl rfl (a_ (P_ rfl rfl) rfl (e_ (b_ rfl (n_ rfl (f_ (d_ ?_)))))))))
  refine a_ (h_ rfl) rfl (e_ (b_ rfl (D_ ?_)))
  exact ar_ gP_ () (aK_ rfl (kz_ (fun h => by first | exact absurd h.sa (by assumption) | exact absurd h.sf (by assumption) | exact absurd h.top (by assumption) | exact absurd h.bot (by assumption) | (have := h.ok x2 hmx2; simp_all)))) X_ (fun _ _ _ => trivial)
 ·
  replace hr1 := of_decide_eq_true hr1
  have hsa : rt_ (Cl.atoms c) := hr1
  refine u_ rfl rfl (a_ (k_ bz_ rfl rfl rfl dI_) rfl (u_ rfl rfl (a_ (o_ 0 cI_ rfl rfl rfl) rfl (u_ rfl rfl (au_ (incF_c (Cl.facts c) (Cl.fad c) (Cl.fcap c) (by omega)) rfl X_ (fun v _ h => by exact ⟨h.2.1, trivial⟩) rfl fun r2 hr2 => ?_)))))
  refine u_ rfl rfl (a_ (bg_ rfl) rfl (a_ (H_ rfl rfl) rfl (e_ (b_ rfl ?_))))
  cases r2
  ·
   replace hr2 := of_decide_eq_false hr2
   refine n_ rfl (f_ (d_ (a_ (h_ rfl) rfl (e_ (b_ rfl (D_ ?_))))))
   exact ar_ gP_ () (aK_ rfl (kz_ (fun h => by first | exact absurd h.sa (by assumption) | exact absurd h.sf (by assumption) | exact absurd h.top (by assumption) | exact absurd h.bot (by assumption) | (have := h.ok x2 hmx2; simp_all)))) X_ (fun _ _ _ => trivial)
  ·
   replace hr2 := of_decide_eq_true hr2
   refine r_ rfl (B_ (b_ rfl (f_ (d_ (cv_ rfl fun b2 => ?_)))))
   refine a_ (h_ rfl) rfl (e_ (b_ rfl (f_ (f_ (d_ (a_ (k_ bz_ rfl rfl rfl bq_) rfl (a_ (o_ 1 cd_ rfl rfl rfl) rfl (a_ (at_ L_ rfl) rfl (a_ (g_ rfl) rfl ?_)))))))))
   refine e_ (b_ rfl (S_ ?_))
   refine aV_ (ι := {y : Nat × Array MapEntry × Nat // y.1 ≤ List.length (Cl.atoms c) ∧ SetE str y.2.1 (List.take y.1 (Cl.atoms c))}) (fun y => [(1, zp_ b1 0), (3, .map (some b2)), (20, .slice (Cl.aad c) (List.length (Cl.atoms c)) (Cl.acap c)), (21, .int .i64 (List.length (Cl.atoms c) : Int)), (22, .int .i64 (y.1.1 : Int))]) (fun y => ((b2, .map y.1.2.1 y.1.2.2) :: ((b1, .cells (Cl.cells c).toArray 28 (0, 0)) :: []))) (fun y => [bb_ (Cl.aad c) (List.flatMap bf_ (Cl.atoms c)), bb_ (Cl.fad c) (List.flatMap Fc.cells (Cl.facts c))]) (fun y => List.length (Cl.atoms c) - y.1.1) ⟨((0 : Nat), #[], 0), by simp, by exact SetE.nil⟩ ⟨rfl, rfl, rfl, rfl, rfl, trivial⟩ (l_ i_ i_) (fun _ _ h => h) ?_
   rintro ⟨⟨i, es, ce⟩, hi, hE⟩
   dsimp only at hi hE ⊢
   refine f_ (d_ (z_ (aC_ rfl rfl) rfl fun r3 hr3 => ?_))
   refine e_ (b_ rfl (f_ ?_))
   cases r3
   ·
    replace hr3 := of_decide_eq_false hr3
    have e9 : (List.take i (Cl.atoms c)) = Cl.atoms c := List.take_of_length_le (by omega)
    rw [e9] at hE
    refine r_ rfl (ay_ rfl (b_ rfl (f_ (f_ (d_ (a_ (g_ rfl) rfl (z_ (cP_ (k := [42]) fU_ eR_ bV_ rfl rfl hE (fun v h _ => (h.own _ (List.mem_of_getElem? (i := 0) rfl)).1)) rfl fun r4 hr4 => ?_)))))))
    refine a_ (bg_ rfl) rfl (a_ (g_ rfl) rfl ?_)
    cases r4
    ·
     replace hr4 := dF hr4
     refine w_ rfl rfl rfl rfl (w_ rfl rfl rfl rfl (w_ rfl rfl rfl rfl (a_ (P_ rfl rfl) rfl (e_ (b_ rfl (n_ rfl (f_ (d_ (a_ (h_ rfl) rfl ?_)))))))))
     refine e_ (b_ rfl (D_ ?_))
     exact ar_ gP_ () (aK_ rfl (kz_ (fun h => by first | exact absurd h.sa (by assumption) | exact absurd h.sf (by assumption) | exact absurd h.top (by assumption) | exact absurd h.bot (by assumption) | (have := h.ok x2 hmx2; simp_all)))) X_ (fun _ _ _ => trivial)
    ·
     replace hr4 := dT hr4
     refine u_ rfl rfl (a_ (g_ rfl) rfl (u_ rfl rfl (z_ (cP_ (k := [33]) fU_ eR_ bV_ rfl rfl hE (fun v h _ => (h.own _ (List.mem_of_getElem? (i := 0) rfl)).1)) rfl fun r5 hr5 => ?_)))
     refine u_ rfl rfl (a_ (bg_ rfl) rfl (a_ (H_ rfl rfl) rfl (e_ (b_ rfl ?_))))
     cases r5
     ·
      replace hr5 := dF hr5
      refine n_ rfl (f_ (d_ (a_ (h_ rfl) rfl (e_ (b_ rfl (D_ ?_))))))
      exact ar_ gP_ () (aK_ rfl (kz_ (fun h => by first | exact absurd h.sa (by assumption) | exact absurd h.sf (by assumption) | exact absurd h.top (by assumption) | exact absurd h.bot (by assumption) | (have := h.ok x2 hmx2; simp_all)))) X_ (fun _ _ _ => trivial)
     ·
      replace hr5 := dT hr5
      refine r_ rfl (B_ (b_ rfl (f_ (f_ (d_ (a_ (k_ bz_ rfl rfl rfl dI_) rfl (a_ (o_ 1 cI_ rfl rfl rfl) rfl (a_ (at_ az_ rfl) rfl (a_ (g_ rfl) rfl ?_)))))))))
      refine e_ (b_ rfl (S_ ?_))
      refine aV_ (ι := {y : Nat // y ≤ List.length (Cl.facts c) ∧ ∀ f ∈ List.take y (Cl.facts c), cy_ (Cl.atoms c) f = true}) (fun y => [(1, zp_ b1 0), (3, .map (some b2)), (38, .slice (Cl.fad c) (List.length (Cl.facts c)) (Cl.fcap c)), (39, .int .i64 (List.length (Cl.facts c) : Int)), (40, .int .i64 (y.1 : Int))]) (fun y => ((b2, .map es ce) :: ((b1, .cells (Cl.cells c).toArray 28 (0, 0)) :: []))) (fun y => [bb_ (Cl.aad c) (List.flatMap bf_ (Cl.atoms c)), bb_ (Cl.fad c) (List.flatMap Fc.cells (Cl.facts c))]) (fun y => List.length (Cl.facts c) - y.1) ⟨(0 : Nat), by simp, by simp⟩ ⟨rfl, rfl, rfl, rfl, rfl, trivial⟩ (l_ i_ i_) (fun _ _ h => h) ?_
      rintro ⟨j, hj, hall⟩
      dsimp only at hj hall ⊢
      refine f_ (d_ (z_ (aC_ rfl rfl) rfl fun r6 hr6 => ?_))
      refine e_ (b_ rfl (f_ ?_))
      cases r6
      ·
       replace hr6 := of_decide_eq_false hr6
       refine r_ rfl (ay_ rfl (b_ rfl (f_ (f_ (d_ (a_ (k_ bz_ rfl rfl rfl dI_) rfl (a_ (o_ 1 cI_ rfl rfl rfl) rfl (a_ (at_ az_ rfl) rfl (z_ (bS_ rfl rfl) rfl fun r7 hr7 => ?_)))))))))
       refine e_ (b_ rfl ?_)
       cases r7
       ·
        replace hr7 := of_decide_eq_false hr7
        refine r_ rfl (B_ (b_ rfl (f_ (d_ (a_ (h_ rfl) rfl (e_ (b_ rfl (D_ ?_))))))))
        exact ar_ gP_ () (aK_ rfl (oL_ ⟨by assumption, by assumption, by assumption, by assumption, by rwa [List.take_of_length_le (by omega)] at hall⟩ (by omega))) X_ (fun _ _ _ => trivial)
       ·
        replace hr7 := of_decide_eq_true hr7
        refine n_ rfl (f_ (d_ (a_ (h_ rfl) rfl (e_ (b_ rfl (D_ ?_))))))
        exact ar_ gP_ () (aK_ rfl (st_ ⟨by assumption, by assumption, by assumption, by assumption, by rwa [List.take_of_length_le (by omega)] at hall⟩ (by omega))) X_ (fun _ _ _ => trivial)
      ·
       replace hr6 := of_decide_eq_true hr6
       have hlx2 : j < List.length (Cl.facts c) := by omega
       obtain ⟨x2, hx2⟩ : ∃ e0, (Cl.facts c)[j]? = some e0 := ⟨_, List.getElem?_eq_getElem hlx2⟩
       have hmx2 : x2 ∈ (Cl.facts c) := List.mem_of_getElem? hx2
       refine n_ rfl (B_ (b_ rfl (f_ (S_ (f_ (d_ (a_ (aj_ az_ M_ rfl rfl (fun v _ h => aO_ (n := 6) Fc.cells_len (by decide) (by exact h.2.1) hx2) (by omega) (by first | omega | (simp; done))) rfl (a_ (aG_ (ad := (Cl.fad c)) (us := Fc.cells x2) af_ M_ rfl (fun v _ h => by exact h.2.1) (Fc.cells_len _) (an_ Fc.cells_len hx2)) rfl (al_ aT_ rfl fun b3 => ?_)))))))))
       refine ae_ 0 M_ rfl rfl rfl rfl rfl rfl (e_ (b_ rfl (f_ (d_ (a_ (K_ 0 af_ M_ rfl rfl rfl) rfl (a_ (g_ rfl) rfl (au_ (qZ_ x2 (Cl.atoms c) b2 es ce hE) rfl (c_ i_) (fun _ _ _ => by exact trivial) rfl fun r8 hr8 => ?_)))))))
       refine a_ (bg_ rfl) rfl (e_ (b_ rfl ?_))
       cases r8
       ·
        refine n_ rfl (f_ (d_ (a_ (h_ rfl) rfl (e_ (b_ rfl (D_ ?_))))))
        exact ar_ gP_ () (aK_ rfl (kz_ (fun h => by first | exact absurd h.sa (by assumption) | exact absurd h.sf (by assumption) | exact absurd h.top (by assumption) | exact absurd h.bot (by assumption) | (have := h.ok x2 hmx2; simp_all)))) X_ (fun _ _ _ => trivial)
       ·
        refine r_ rfl (B_ (b_ rfl (d_ (a_ (V_ rfl rfl rfl (am_ (by omega) (by omega))) rfl (a_ (g_ rfl) rfl (e_ (t_ rfl ?_)))))))
        exact ah_ ⟨j + 1, hlx2, fun y hy => by rw [List.take_add_one, hx2] at hy; simp only [Option.toList_some, List.mem_append, List.mem_singleton] at hy; rcases hy with hy | rfl; exact hall y hy; simp_all⟩ (by dsimp only; omega) ⟨rfl, rfl, rfl, rfl, rfl, trivial⟩ (l_ i_ (c_ i_)) (fun _ _ h => h)
   ·
    replace hr3 := of_decide_eq_true hr3
    have hlx1 : i < List.length (Cl.atoms c) := by omega
    obtain ⟨x1, hx1⟩ : ∃ e0, (Cl.atoms c)[i]? = some e0 := ⟨_, List.getElem?_eq_getElem hlx1⟩
    have hmx1 : x1 ∈ (Cl.atoms c) := List.mem_of_getElem? hx1
    refine n_ rfl (B_ (b_ rfl (f_ (S_ (f_ (d_ (a_ (aj_ L_ p_ rfl rfl (fun v _ h => aO_ (n := 1) aX_ (by decide) (by exact h.1) hx1) (by omega) (by first | omega | (simp; done))) rfl (a_ (bA_ (ad := (Cl.aad c)) v_ rfl (fun v _ h => by exact h.1) (an_ aX_ hx1 0 _ rfl)) rfl (a_ (h_ rfl) rfl ?_)))))))))
    refine e_ (b_ rfl (d_ (a_ (g_ rfl) rfl (a_ (g_ rfl) rfl (fQ_ (k := x1) 0 fU_ (.inr rfl) eR_ rfl rfl rfl rfl hE fun ej1 cj1 hj1 => ?_)))))
    refine e_ (b_ rfl (d_ (a_ (V_ rfl rfl rfl (am_ (by omega) (by omega))) rfl (a_ (g_ rfl) rfl (e_ (t_ rfl ?_))))))
    exact ah_ ⟨(i + 1, ej1, cj1), hlx1, (jD_ hsa.nodup hx1) ▸ hj1⟩ (by dsimp only; omega) ⟨rfl, rfl, rfl, rfl, rfl, trivial⟩ (l_ i_ i_) (fun _ _ h => h)
def ri_ (fs : List Fc) (f : Fc) : Bool := fs.any fun x => (decide (x = f) || decide (x = ax_ f.a [33])) || ((decide (f = aJ_ f.a f.r f.lo f.hi) && decide (x = aJ_ f.a f.r x.lo x.hi)) && (decide (f.lo ≤ x.lo) && decide (x.hi ≤ f.hi)))
def kv_ (f x : Fc) : Bool := (decide (x = f) || decide (x = ax_ f.a [33])) || ((decide (f = aJ_ f.a f.r f.lo f.hi) && decide (x = aJ_ f.a f.r x.lo x.hi)) && (decide (f.lo ≤ x.lo) && decide (x.hi ≤ f.hi)))
theorem any_no {α : Type} {p : α → Bool} {l : List α} {j : Nat} {x : α} (h : ∀ y ∈ l.take j, p y = false) (hx : l[j]? = some x) (hp : p x = false) : ∀ y ∈ l.take (j + 1), p y = false := fun y hy => by
  rw [List.take_add_one, hx] at hy
  simp only [Option.toList_some, List.mem_append, List.mem_singleton] at hy
  rcases hy with hy | rfl
  · exact h y hy
  · exact hp
theorem oQ_ {α : Type} {p : α → Bool} {l : List α} {j : Nat} (h : ∀ y ∈ l.take j, p y = false) (hj : l.length ≤ j) : false = l.any p := by
  rw [List.take_of_length_le hj] at h
  symm; rw [List.any_eq_false]; exact fun y hy => by simp [h y hy]
theorem he_ {α : Type} {p : α → Bool} {l : List α} {x : α} (hx : x ∈ l) (hp : p x = true) : true = l.any p := (List.any_eq_true.2 ⟨x, hx, hp⟩).symm
theorem jh_ (c : Cl) (f : Fc) (hf : c.facts.length ≤ 1000000000000) : Tri Tryz.prog 46 #[Cl.val c, Fc.val f] [] [bb_ (Cl.fad c) (List.flatMap Fc.cells (Cl.facts c))] (fun _ : Unit => .bool (ri_ c.facts f)) (fun _ => []) (fun _ => []) := by
 refine R_ Tryz.func46 rfl rfl Tryz.ntmps46 rfl fun v0 => ?_
 refine f_ (d_ (aI_ rfl rfl fun b1 => ?_))
 refine aI_ rfl rfl fun b2 => ?_
 refine a_ (h_ rfl) rfl (e_ (b_ rfl (f_ (d_ (a_ (k_ s_ rfl rfl rfl p_) rfl (a_ (o_ 0 v_ rfl rfl rfl) rfl (Q_ (eX_ (Fc.a f) [33]) rfl X_ (fun _ _ _ => by exact trivial) rfl fun _ => ?_)))))))
 refine al_ aT_ rfl fun b3 => ?_
 refine ae_ 0 M_ rfl rfl rfl rfl rfl rfl (e_ (b_ rfl (f_ ?_)))
 refine aE_ (by kernel_rfl) ?_
 refine ab_ 3 [0, 1, 2, 3, 4, 5, 6, 7, 8] (by kernel_rfl) (fun _ a b => ⟨a, b⟩) (j_ rfl (K_ 1 af_ M_ rfl rfl rfl) rfl (j_ rfl (k_ s_ rfl rfl rfl p_) rfl (j_ rfl (o_ 1 v_ rfl rfl rfl) rfl (j_ rfl (k_ s_ rfl rfl rfl p_) rfl (j_ rfl (o_ 1 v_ rfl rfl rfl) rfl (j_ rfl (k_ s_ rfl rfl rfl I_) rfl (j_ rfl (o_ 1 J_ rfl rfl rfl) rfl (j_ rfl (k_ s_ rfl rfl rfl I_) rfl (j_ rfl (o_ 1 J_ rfl rfl rfl) rfl ?_)))))))))
 refine aa_ (N_ 9 rfl (by kernel_rfl) (Q_ (iz_ (Fc.a f) (Fc.r f) (Fc.lo f) (Fc.hi f)) rfl X_ (fun _ _ _ => by exact trivial) rfl fun _ => ?_))
 refine e_ (t_ rfl (E_ (fun _ a b => ⟨a, b⟩) (ab_ 0 [10, 11] (by kernel_rfl) (fun _ a b => ⟨a, b⟩) ?_)))
 refine cK_ rfl (dS_ (p := f) (q := (aJ_ (Fc.a f) (Fc.r f) (Fc.lo f) (Fc.hi f))) rfl rfl) rfl fun r1 hr1 => ?_
 refine j_ rfl (h_ rfl) rfl (aa_ (Y_ (by kernel_rfl) (b_ rfl (f_ (f_ (d_ (a_ (k_ bz_ rfl rfl rfl dI_) rfl (a_ (o_ 2 cI_ rfl rfl rfl) rfl (a_ (at_ az_ rfl) rfl ?_)))))))))
 refine a_ (g_ rfl) rfl (e_ (b_ rfl (S_ ?_)))
 cases r1
 ·
  replace hr1 := of_decide_eq_false hr1
  refine aV_ (ι := {y : Nat // y ≤ List.length (Cl.facts c) ∧ ∀ z ∈ List.take y (Cl.facts c), kv_ f z = false}) (fun y => [(2, zp_ b1 0), (3, zp_ b2 0), (5, zp_ b3 0), (6, .bool false), (24, .slice (Cl.fad c) (List.length (Cl.facts c)) (Cl.fcap c)), (25, .int .i64 (List.length (Cl.facts c) : Int)), (26, .int .i64 (y.1 : Int))]) (fun y => ((b3, .cells #[.int .i64 (Fc.kind (ax_ (Fc.a f) [33])), str (Fc.a (ax_ (Fc.a f) [33])), str (Fc.b (ax_ (Fc.a f) [33])), str (Fc.r (ax_ (Fc.a f) [33])), .int .i64 (Fc.lo (ax_ (Fc.a f) [33])), .int .i64 (Fc.hi (ax_ (Fc.a f) [33]))] 41 (0, 0)) :: ((b2, .cells (Fc.cells f).toArray 41 (0, 0)) :: ((b1, .cells (Cl.cells c).toArray 28 (0, 0)) :: [])))) (fun y => [bb_ (Cl.fad c) (List.flatMap Fc.cells (Cl.facts c))]) (fun y => List.length (Cl.facts c) - y.1) ⟨(0 : Nat), by simp, by simp⟩ ⟨rfl, rfl, rfl, rfl, rfl, rfl, rfl, trivial⟩ (l_ i_ (l_ i_ i_)) (fun _ _ h => h) ?_
  rintro ⟨j, hj, hall⟩
  dsimp only at hj hall ⊢
  refine f_ (d_ (z_ (aC_ rfl rfl) rfl fun r2 hr2 => ?_))
  refine e_ (b_ rfl (f_ ?_))
  cases r2
  ·
   replace hr2 := of_decide_eq_false hr2
   refine r_ rfl (ay_ rfl (b_ rfl (f_ (d_ (a_ (h_ rfl) rfl (e_ (b_ rfl (D_ ?_))))))))
   exact ar_ gO_ () (G_ rfl (oQ_ hall (by omega))) X_ (fun _ _ _ => trivial)
  ·
   replace hr2 := of_decide_eq_true hr2
   have hlx2 : j < List.length (Cl.facts c) := by omega
   obtain ⟨x2, hx2⟩ : ∃ e0, (Cl.facts c)[j]? = some e0 := ⟨_, List.getElem?_eq_getElem hlx2⟩
   have hmx2 : x2 ∈ (Cl.facts c) := List.mem_of_getElem? hx2
   refine n_ rfl (B_ (b_ rfl (f_ (S_ (f_ (d_ (a_ (aj_ az_ M_ rfl rfl (fun v _ h => aO_ (n := 6) Fc.cells_len (by decide) (by exact h.1) hx2) (by omega) (by first | omega | (simp; done))) rfl (a_ (aG_ (ad := (Cl.fad c)) (us := Fc.cells x2) af_ M_ rfl (fun v _ h => by exact h.1) (Fc.cells_len _) (an_ Fc.cells_len hx2)) rfl (al_ aT_ rfl fun b4 => ?_)))))))))
   refine ae_ 0 M_ rfl rfl rfl rfl rfl rfl (e_ (b_ rfl (f_ (f_ (d_ (a_ (K_ 0 af_ M_ rfl rfl rfl) rfl (a_ (K_ 2 af_ M_ rfl rfl rfl) rfl (z_ (dS_ (p := x2) (q := f) rfl rfl) rfl fun r3 hr3 => ?_))))))))
   refine a_ (g_ rfl) rfl ?_
   cases r3
   ·
    replace hr3 := of_decide_eq_false hr3
    refine u_ rfl rfl (a_ (K_ 0 af_ M_ rfl rfl rfl) rfl (u_ rfl rfl (a_ (K_ 1 af_ M_ rfl rfl rfl) rfl (u_ rfl rfl (z_ (dS_ (p := x2) (q := (ax_ (Fc.a f) [33])) rfl rfl) rfl fun r4 hr4 => ?_)))))
    refine a_ (H_ rfl rfl) rfl (e_ (b_ rfl ?_))
    cases r4
    ·
     replace hr4 := of_decide_eq_false hr4
     refine r_ rfl (B_ (b_ rfl (f_ ?_)))
     refine aE_ (by kernel_rfl) ?_
     refine ab_ 0 [0, 1, 2, 3, 4, 5, 6, 7, 8, 9, 10, 11, 12, 13, 14, 15, 16, 17, 18, 19, 20, 21, 22, 23, 24, 25, 26, 27] (by kernel_rfl) (fun _ a b => ⟨a, b⟩) (j_ rfl (g_ rfl) rfl (j_ rfl (g_ rfl) rfl (aL_ rfl rfl rfl rfl rfl (aL_ rfl rfl rfl rfl rfl (aL_ rfl rfl rfl rfl rfl (aL_ rfl rfl rfl rfl rfl (aL_ rfl rfl rfl rfl rfl (aL_ rfl rfl rfl rfl rfl (aL_ rfl rfl rfl rfl rfl ?_)))))))))
     refine aL_ rfl rfl rfl rfl rfl (aL_ rfl rfl rfl rfl rfl (aL_ rfl rfl rfl rfl rfl (aL_ rfl rfl rfl rfl rfl (j_ rfl (H_ rfl rfl) rfl (j_ rfl (g_ rfl) rfl (aL_ rfl rfl rfl rfl rfl (aL_ rfl rfl rfl rfl rfl (aL_ rfl rfl rfl rfl rfl (aL_ rfl rfl rfl rfl rfl ?_)))))))))
     refine aL_ rfl rfl rfl rfl rfl (j_ rfl (H_ rfl rfl) rfl (j_ rfl (g_ rfl) rfl (aL_ rfl rfl rfl rfl rfl (aL_ rfl rfl rfl rfl rfl (aL_ rfl rfl rfl rfl rfl (aL_ rfl rfl rfl rfl rfl (aL_ rfl rfl rfl rfl rfl (j_ rfl (H_ rfl rfl) rfl (aa_ ?_)))))))))
     refine Y_ (by kernel_rfl) (b_ rfl (r_ rfl (B_ (b_ rfl (d_ (a_ (V_ rfl rfl rfl (am_ (by omega) (by omega))) rfl (a_ (g_ rfl) rfl (e_ (t_ rfl ?_)))))))))
     exact ah_ ⟨j + 1, hlx2, any_no hall hx2 (by have p1 := eq_false hr1; have p2 := eq_true hr2; have p3 := eq_false hr3; have p4 := eq_false hr4; simp only [kv_, p1, p2, p3, p4, if_true, if_false, decide_true, decide_false, Bool.and_true, Bool.and_false, Bool.true_and, Bool.false_and, Bool.or_true, Bool.or_false, Bool.true_or, Bool.false_or, Bool.not_true, Bool.not_false, ne_eq, not_true_eq_false, not_false_eq_true, true_and, and_true, false_and, and_false, true_or, or_true, false_or, or_false, ite_true, ite_false, Bool.false_eq_true])⟩ (by dsimp only; omega) ⟨rfl, rfl, rfl, rfl, rfl, rfl, rfl, trivial⟩ (l_ (c_ i_) (l_ (c_ i_) (c_ i_))) (fun _ _ h => h)
    ·
     replace hr4 := of_decide_eq_true hr4
     refine n_ rfl (f_ (d_ (a_ (h_ rfl) rfl (e_ (b_ rfl (D_ ?_))))))
     exact ar_ gO_ () (G_ rfl (he_ hmx2 (by have p1 := eq_false hr1; have p2 := eq_true hr2; have p3 := eq_false hr3; have p4 := eq_true hr4; simp only [kv_, p1, p2, p3, p4, if_true, if_false, decide_true, decide_false, Bool.and_true, Bool.and_false, Bool.true_and, Bool.false_and, Bool.or_true, Bool.or_false, Bool.true_or, Bool.false_or, Bool.not_true, Bool.not_false, ne_eq, not_true_eq_false, not_false_eq_true, true_and, and_true, false_and, and_false, true_or, or_true, false_or, or_false, ite_true, ite_false, Bool.false_eq_true]))) X_ (fun _ _ _ => trivial)
   ·
    replace hr3 := of_decide_eq_true hr3
    refine w_ rfl rfl rfl rfl (w_ rfl rfl rfl rfl (w_ rfl rfl rfl rfl (a_ (P_ rfl rfl) rfl (e_ (b_ rfl (n_ rfl (f_ (d_ (a_ (h_ rfl) rfl ?_)))))))))
    refine e_ (b_ rfl (D_ ?_))
    exact ar_ gO_ () (G_ rfl (he_ hmx2 (by have p1 := eq_false hr1; have p2 := eq_true hr2; have p3 := eq_true hr3; simp only [kv_, p1, p2, p3, if_true, if_false, decide_true, decide_false, Bool.and_true, Bool.and_false, Bool.true_and, Bool.false_and, Bool.or_true, Bool.or_false, Bool.true_or, Bool.false_or, Bool.not_true, Bool.not_false, ne_eq, not_true_eq_false, not_false_eq_true, true_and, and_true, false_and, and_false, true_or, or_true, false_or, or_false, ite_true, ite_false, Bool.false_eq_true]))) X_ (fun _ _ _ => trivial)
 ·
  replace hr1 := of_decide_eq_true hr1
  refine aV_ (ι := {y : Nat // y ≤ List.length (Cl.facts c) ∧ ∀ z ∈ List.take y (Cl.facts c), kv_ f z = false}) (fun y => [(2, zp_ b1 0), (3, zp_ b2 0), (5, zp_ b3 0), (6, .bool true), (24, .slice (Cl.fad c) (List.length (Cl.facts c)) (Cl.fcap c)), (25, .int .i64 (List.length (Cl.facts c) : Int)), (26, .int .i64 (y.1 : Int))]) (fun y => ((b3, .cells #[.int .i64 (Fc.kind (ax_ (Fc.a f) [33])), str (Fc.a (ax_ (Fc.a f) [33])), str (Fc.b (ax_ (Fc.a f) [33])), str (Fc.r (ax_ (Fc.a f) [33])), .int .i64 (Fc.lo (ax_ (Fc.a f) [33])), .int .i64 (Fc.hi (ax_ (Fc.a f) [33]))] 41 (0, 0)) :: ((b2, .cells (Fc.cells f).toArray 41 (0, 0)) :: ((b1, .cells (Cl.cells c).toArray 28 (0, 0)) :: [])))) (fun y => [bb_ (Cl.fad c) (List.flatMap Fc.cells (Cl.facts c))]) (fun y => List.length (Cl.facts c) - y.1) ⟨(0 : Nat), by simp, by simp⟩ ⟨rfl, rfl, rfl, rfl, rfl, rfl, rfl, trivial⟩ (l_ i_ (l_ i_ i_)) (fun _ _ h => h) ?_
  rintro ⟨j, hj, hall⟩
  dsimp only at hj hall ⊢
  refine f_ (d_ (z_ (aC_ rfl rfl) rfl fun r5 hr5 => ?_))
  refine e_ (b_ rfl (f_ ?_))
  cases r5
  ·
   replace hr5 := of_decide_eq_false hr5
   refine r_ rfl (ay_ rfl (b_ rfl (f_ (d_ (a_ (h_ rfl) rfl (e_ (b_ rfl (D_ ?_))))))))
   exact ar_ gO_ () (G_ rfl (oQ_ hall (by omega))) X_ (fun _ _ _ => trivial)
  ·
   replace hr5 := of_decide_eq_true hr5
   have hlx2 : j < List.length (Cl.facts c) := by omega
   obtain ⟨x2, hx2⟩ : ∃ e0, (Cl.facts c)[j]? = some e0 := ⟨_, List.getElem?_eq_getElem hlx2⟩
   have hmx2 : x2 ∈ (Cl.facts c) := List.mem_of_getElem? hx2
   refine n_ rfl (B_ (b_ rfl (f_ (S_ (f_ (d_ (a_ (aj_ az_ M_ rfl rfl (fun v _ h => aO_ (n := 6) Fc.cells_len (by decide) (by exact h.1) hx2) (by omega) (by first | omega | (simp; done))) rfl (a_ (aG_ (ad := (Cl.fad c)) (us := Fc.cells x2) af_ M_ rfl (fun v _ h => by exact h.1) (Fc.cells_len _) (an_ Fc.cells_len hx2)) rfl (al_ aT_ rfl fun b5 => ?_)))))))))
   refine ae_ 0 M_ rfl rfl rfl rfl rfl rfl (e_ (b_ rfl (f_ (f_ (d_ (a_ (K_ 0 af_ M_ rfl rfl rfl) rfl (a_ (K_ 2 af_ M_ rfl rfl rfl) rfl (z_ (dS_ (p := x2) (q := f) rfl rfl) rfl fun r6 hr6 => ?_))))))))
   refine a_ (g_ rfl) rfl ?_
   cases r6
   ·
    replace hr6 := of_decide_eq_false hr6
    refine u_ rfl rfl (a_ (K_ 0 af_ M_ rfl rfl rfl) rfl (u_ rfl rfl (a_ (K_ 1 af_ M_ rfl rfl rfl) rfl (u_ rfl rfl (z_ (dS_ (p := x2) (q := (ax_ (Fc.a f) [33])) rfl rfl) rfl fun r7 hr7 => ?_)))))
    refine a_ (H_ rfl rfl) rfl (e_ (b_ rfl ?_))
    cases r7
    ·
     replace hr7 := of_decide_eq_false hr7
     refine r_ rfl (B_ (b_ rfl (f_ ?_)))
     refine aE_ (by kernel_rfl) ?_
     refine ab_ 17 [0, 1, 2, 3, 4, 5, 6, 7, 8, 9, 10] (by kernel_rfl) (fun _ a b => ⟨a, b⟩) (j_ rfl (g_ rfl) rfl (j_ rfl (g_ rfl) rfl (aB_ rfl rfl rfl (K_ 0 af_ M_ rfl rfl rfl) rfl (aB_ rfl rfl rfl (k_ s_ rfl rfl rfl p_) rfl (aB_ rfl rfl rfl (o_ 2 v_ rfl rfl rfl) rfl (aB_ rfl rfl rfl (k_ s_ rfl rfl rfl p_) rfl (aB_ rfl rfl rfl (o_ 2 v_ rfl rfl rfl) rfl (aB_ rfl rfl rfl (k_ s_ rfl rfl rfl I_) rfl (aB_ rfl rfl rfl (o_ 0 J_ rfl rfl rfl) rfl ?_)))))))))
     refine aB_ rfl rfl rfl (k_ s_ rfl rfl rfl I_) rfl (aB_ rfl rfl rfl (o_ 0 J_ rfl rfl rfl) rfl (aa_ (N_ 11 rfl (by kernel_rfl) (u_ rfl rfl (Q_ (iz_ (Fc.a f) (Fc.r f) (Fc.lo x2) (Fc.hi x2)) rfl X_ (fun _ _ _ => by exact trivial) rfl fun _ => ?_)))))
     refine e_ (t_ rfl (E_ (fun _ a b => ⟨a, b⟩) (ab_ 13 [12, 13, 14] (by kernel_rfl) (fun _ a b => ⟨a, b⟩) ?_)))
     refine dc_ rfl rfl rfl (dS_ (p := x2) (q := (aJ_ (Fc.a f) (Fc.r f) (Fc.lo x2) (Fc.hi x2))) rfl rfl) rfl fun r8 hr8 => ?_
     refine j_ rfl (P_ rfl rfl) rfl (j_ rfl (g_ rfl) rfl (aa_ ?_))
     cases r8
     ·
      replace hr8 := of_decide_eq_false hr8
      refine ab_ 0 [15, 16, 17, 18, 19, 20, 21, 22, 23, 24, 25, 26, 27] (by kernel_rfl) (fun _ a b => ⟨a, b⟩) (aL_ rfl rfl rfl rfl rfl (aL_ rfl rfl rfl rfl rfl (aL_ rfl rfl rfl rfl rfl (aL_ rfl rfl rfl rfl rfl (aL_ rfl rfl rfl rfl rfl (j_ rfl (H_ rfl rfl) rfl (j_ rfl (g_ rfl) rfl (aL_ rfl rfl rfl rfl rfl (aL_ rfl rfl rfl rfl rfl ?_)))))))))
      refine aL_ rfl rfl rfl rfl rfl (aL_ rfl rfl rfl rfl rfl (aL_ rfl rfl rfl rfl rfl (j_ rfl (H_ rfl rfl) rfl (aa_ (Y_ (by kernel_rfl) (b_ rfl (r_ rfl (B_ (b_ rfl ?_)))))))))
      refine d_ (a_ (V_ rfl rfl rfl (am_ (by omega) (by omega))) rfl (a_ (g_ rfl) rfl (e_ (t_ rfl ?_))))
      exact ah_ ⟨j + 1, hlx2, any_no hall hx2 (by have p1 := eq_true hr1; have p2 := eq_true hr5; have p3 := eq_false hr6; have p4 := eq_false hr7; have p5 := eq_false hr8; simp only [kv_, p1, p2, p3, p4, p5, if_true, if_false, decide_true, decide_false, Bool.and_true, Bool.and_false, Bool.true_and, Bool.false_and, Bool.or_true, Bool.or_false, Bool.true_or, Bool.false_or, Bool.not_true, Bool.not_false, ne_eq, not_true_eq_false, not_false_eq_true, true_and, and_true, false_and, and_false, true_or, or_true, false_or, or_false, ite_true, ite_false, Bool.false_eq_true])⟩ (by dsimp only; omega) ⟨rfl, rfl, rfl, rfl, rfl, rfl, rfl, trivial⟩ (l_ (c_ i_) (l_ (c_ i_) (c_ i_))) (fun _ _ h => h)
     ·
      replace hr8 := of_decide_eq_true hr8
      refine ab_ 6 [15, 16, 17, 18, 19, 20, 21] (by kernel_rfl) (fun _ a b => ⟨a, b⟩) (aB_ rfl rfl rfl (k_ s_ rfl rfl rfl I_) rfl (aB_ rfl rfl rfl (o_ 0 J_ rfl rfl rfl) rfl (aB_ rfl rfl rfl (k_ s_ rfl rfl rfl I_) rfl (aB_ rfl rfl rfl (o_ 2 J_ rfl rfl rfl) rfl ?_))))
      refine dc_ rfl rfl rfl (dy_ rfl rfl) rfl fun r9 hr9 => ?_
      refine j_ rfl (P_ rfl rfl) rfl (j_ rfl (g_ rfl) rfl (aa_ ?_))
      cases r9
      ·
       replace hr9 := of_decide_eq_false hr9
       refine ab_ 0 [22, 23, 24, 25, 26, 27] (by kernel_rfl) (fun _ a b => ⟨a, b⟩) (aL_ rfl rfl rfl rfl rfl (aL_ rfl rfl rfl rfl rfl (aL_ rfl rfl rfl rfl rfl (aL_ rfl rfl rfl rfl rfl (aL_ rfl rfl rfl rfl rfl (j_ rfl (H_ rfl rfl) rfl (aa_ (Y_ (by kernel_rfl) (b_ rfl ?_)))))))))
       refine r_ rfl (B_ (b_ rfl (d_ (a_ (V_ rfl rfl rfl (am_ (by omega) (by omega))) rfl (a_ (g_ rfl) rfl (e_ (t_ rfl ?_)))))))
       exact ah_ ⟨j + 1, hlx2, any_no hall hx2 (by have p1 := eq_true hr1; have p2 := eq_true hr5; have p3 := eq_false hr6; have p4 := eq_false hr7; have p5 := eq_true hr8; have p6 := eq_false hr9; simp only [kv_, p1, p2, p3, p4, p5, p6, if_true, if_false, decide_true, decide_false, Bool.and_true, Bool.and_false, Bool.true_and, Bool.false_and, Bool.or_true, Bool.or_false, Bool.true_or, Bool.false_or, Bool.not_true, Bool.not_false, ne_eq, not_true_eq_false, not_false_eq_true, true_and, and_true, false_and, and_false, true_or, or_true, false_or, or_false, ite_true, ite_false, Bool.false_eq_true])⟩ (by dsimp only; omega) ⟨rfl, rfl, rfl, rfl, rfl, rfl, rfl, trivial⟩ (l_ (c_ i_) (l_ (c_ i_) (c_ i_))) (fun _ _ h => h)
      ·
       replace hr9 := of_decide_eq_true hr9
       refine ab_ 0 [22, 23, 24, 25, 26, 27] (by kernel_rfl) (fun _ a b => ⟨a, b⟩) (aB_ rfl rfl rfl (k_ s_ rfl rfl rfl I_) rfl (aB_ rfl rfl rfl (o_ 0 J_ rfl rfl rfl) rfl (aB_ rfl rfl rfl (k_ s_ rfl rfl rfl I_) rfl (aB_ rfl rfl rfl (o_ 2 J_ rfl rfl rfl) rfl ?_))))
       refine dc_ rfl rfl rfl (co_ rfl rfl) rfl fun r10 hr10 => ?_
       refine j_ rfl (P_ rfl rfl) rfl (aa_ (Y_ (by kernel_rfl) (b_ rfl ?_)))
       cases r10
       ·
        replace hr10 := of_decide_eq_false hr10
        refine r_ rfl (B_ (b_ rfl (d_ (a_ (V_ rfl rfl rfl (am_ (by omega) (by omega))) rfl (a_ (g_ rfl) rfl (e_ (t_ rfl ?_)))))))
        exact ah_ ⟨j + 1, hlx2, any_no hall hx2 (by have p1 := eq_true hr1; have p2 := eq_true hr5; have p3 := eq_false hr6; have p4 := eq_false hr7; have p5 := eq_true hr8; have p6 := eq_true hr9; have p7 := eq_false hr10; simp only [kv_, p1, p2, p3, p4, p5, p6, p7, if_true, if_false, decide_true, decide_false, Bool.and_true, Bool.and_false, Bool.true_and, Bool.false_and, Bool.or_true, Bool.or_false, Bool.true_or, Bool.false_or, Bool.not_true, Bool.not_false, ne_eq, not_true_eq_false, not_false_eq_true, true_and, and_true, false_and, and_false, true_or, or_true, false_or, or_false, ite_true, ite_false, Bool.false_eq_true])⟩ (by dsimp only; omega) ⟨rfl, rfl, rfl, rfl, rfl, rfl, rfl, trivial⟩ (l_ (c_ i_) (l_ (c_ i_) (c_ i_))) (fun _ _ h => h)
       ·
        replace hr10 := of_decide_eq_true hr10
        refine n_ rfl (f_ (d_ (a_ (h_ rfl) rfl (e_ (b_ rfl (D_ ?_))))))
        exact ar_ gO_ () (G_ rfl (he_ hmx2 (by have p1 := eq_true hr1; have p2 := eq_true hr5; have p3 := eq_false hr6; have p4 := eq_false hr7; have p5 := eq_true hr8; have p6 := eq_true hr9; have p7 := eq_true hr10; simp only [kv_, p1, p2, p3, p4, p5, p6, p7, if_true, if_false, decide_true, decide_false, Bool.and_true, Bool.and_false, Bool.true_and, Bool.false_and, Bool.or_true, Bool.or_false, Bool.true_or, Bool.false_or, Bool.not_true, Bool.not_false, ne_eq, not_true_eq_false, not_false_eq_true, true_and, and_true, false_and, and_false, true_or, or_true, false_or, or_false, ite_true, ite_false, Bool.false_eq_true]))) X_ (fun _ _ _ => trivial)
    ·
     replace hr7 := of_decide_eq_true hr7
     refine n_ rfl (f_ (d_ (a_ (h_ rfl) rfl (e_ (b_ rfl (D_ ?_))))))
     exact ar_ gO_ () (G_ rfl (he_ hmx2 (by have p1 := eq_true hr1; have p2 := eq_true hr5; have p3 := eq_false hr6; have p4 := eq_true hr7; simp only [kv_, p1, p2, p3, p4, if_true, if_false, decide_true, decide_false, Bool.and_true, Bool.and_false, Bool.true_and, Bool.false_and, Bool.or_true, Bool.or_false, Bool.true_or, Bool.false_or, Bool.not_true, Bool.not_false, ne_eq, not_true_eq_false, not_false_eq_true, true_and, and_true, false_and, and_false, true_or, or_true, false_or, or_false, ite_true, ite_false, Bool.false_eq_true]))) X_ (fun _ _ _ => trivial)
   ·
    replace hr6 := of_decide_eq_true hr6
    refine w_ rfl rfl rfl rfl (w_ rfl rfl rfl rfl (w_ rfl rfl rfl rfl (a_ (P_ rfl rfl) rfl (e_ (b_ rfl (n_ rfl (f_ (d_ (a_ (h_ rfl) rfl ?_)))))))))
    refine e_ (b_ rfl (D_ ?_))
    exact ar_ gO_ () (G_ rfl (he_ hmx2 (by have p1 := eq_true hr1; have p2 := eq_true hr5; have p3 := eq_true hr6; simp only [kv_, p1, p2, p3, if_true, if_false, decide_true, decide_false, Bool.and_true, Bool.and_false, Bool.true_and, Bool.false_and, Bool.or_true, Bool.or_false, Bool.true_or, Bool.false_or, Bool.not_true, Bool.not_false, ne_eq, not_true_eq_false, not_false_eq_true, true_and, and_true, false_and, and_false, true_or, or_true, false_or, or_false, ite_true, ite_false, Bool.false_eq_true]))) X_ (fun _ _ _ => trivial)
end Go.Proofs.YtpdbbglpbngeiaaGreatDoor
namespace Go.Proofs.YtpdbbglpbngeiaaGreatDoor
open Go Go.Sx Go.Proofs
attribute [local irreducible] Code.wp wpList wpAnyH
open Go.Vs
theorem ls_ (a b : Str) : Fn0 Tryz.prog 47 #[str a, str b] (Fc.val (ax_ a b)) := by
  refine R_ Tryz.func47 rfl rfl Tryz.ntmps47 rfl fun v0 => ?_
  refine f_ (d_ (al_ aT_ rfl fun b1 => ?_))
  refine e_ (b_ rfl (f_ (d_ (a_ (g_ rfl) rfl (a_ (g_ rfl) rfl (a_ (ao_ ix_ rfl rfl) rfl (ae_ 0 M_ rfl rfl rfl rfl rfl rfl (e_ (b_ rfl ?_)))))))))
  refine D_ ?_
  exact fP_ () (fun aa v h1 h2 => eh_ (us := Fc.cells (ax_ a b)) 0 Tryz.results47 af_ M_ rfl rfl rfl aa v h1 h2) X_ (fun _ _ _ => trivial)
theorem lv_ (a r b : Str) : Fn0 Tryz.prog 51 #[str a, str r, str b] (Fc.val (aN_ a r b)) := by
  refine R_ Tryz.func51 rfl rfl Tryz.ntmps51 rfl fun v0 => ?_
  refine f_ (d_ (al_ aT_ rfl fun b1 => ?_))
  refine e_ (b_ rfl (f_ (d_ (a_ (g_ rfl) rfl (a_ (g_ rfl) rfl (a_ (g_ rfl) rfl (a_ (ao_ ix_ rfl rfl) rfl (ae_ 0 M_ rfl rfl rfl rfl rfl rfl (e_ ?_)))))))))
  refine b_ rfl (D_ ?_)
  exact fP_ () (fun aa v h1 h2 => eh_ (us := Fc.cells (aN_ a r b)) 0 Tryz.results51 af_ M_ rfl rfl rfl aa v h1 h2) X_ (fun _ _ _ => trivial)
theorem rL_ (a r : Str) (lo hi : Int) : Fn0 Tryz.prog 52 #[str a, str r, .int .i64 lo, .int .i64 hi] (Fc.val (aJ_ a r lo hi)) := by
  refine R_ Tryz.func52 rfl rfl Tryz.ntmps52 rfl fun v0 => ?_
  refine f_ (d_ (al_ aT_ rfl fun b1 => ?_))
  refine e_ (b_ rfl (f_ (d_ (a_ (g_ rfl) rfl (a_ (g_ rfl) rfl (a_ (g_ rfl) rfl (a_ (g_ rfl) rfl (a_ (ao_ ix_ rfl rfl) rfl (ae_ 0 M_ rfl rfl rfl rfl rfl rfl ?_)))))))))
  refine e_ (b_ rfl (D_ ?_))
  exact fP_ () (fun aa v h1 h2 => eh_ (us := Fc.cells (aJ_ a r lo hi)) 0 Tryz.results52 af_ M_ rfl rfl rfl aa v h1 h2) X_ (fun _ _ _ => trivial)
end Go.Proofs.YtpdbbglpbngeiaaGreatDoor
namespace Go.Proofs.YtpdbbglpbngeiaaGreatDoor
open Go Go.Sx Go.Proofs
attribute [local irreducible] Code.wp wpList wpAnyH
open Go.Vs
theorem lq_ {a b : Str} (h : str a = str b) : a = b := by
  have h1 := Value.string.inj h
  have h2 := congrArg (fun z : ByteArray => z.data.toList) h1
  simpa using h2
theorem Fc.val_inj (x y : Fc) (h : x.val = y.val) : x = y := by
  obtain ⟨k, a, b, r, lo, hi⟩ := x
  obtain ⟨k', a', b', r', lo', hi'⟩ := y
  have h1 : [Value.int .i64 k, str a, str b, str r, .int .i64 lo, .int .i64 hi] = [Value.int .i64 k', str a', str b', str r', .int .i64 lo', .int .i64 hi'] := by
    exact congrArg Array.toList (Value.agg.inj h)
  simp only [List.cons.injEq, Value.int.injEq, true_and, and_true] at h1
  obtain ⟨rfl, ha, hb, hr, rfl, rfl⟩ := h1
  rw [lq_ ha, lq_ hb, lq_ hr]
theorem se_ {σ : Type} {l : Nat} {Gj : σ → Hp} {lst : σ → List Fc} (hY : ∀ s x, (lst s).length < 1000000000000 → kK_ Tryz.prog l (Fc.val x) (Gj s) [] (fun _ : {s' : σ // lst s' = lst s ++ [x]} => .bool true) (fun s' => Gj s'.1) (fun _ => [])) (s0 : σ) (hs0 : lst s0 = []) (mb bx c : Nat) (es : Array MapEntry) (q : List Fc) (hE : SetE Fc.val es q) (hB : Born es c) (hql : q.length ≤ 1000000000000) : Tri Tryz.prog 122 #[.func (.yield l) #[] #[], zp_ bx 0] ((bx, .cells #[.map (some mb)] 88 (0, 0)) :: (mb, .map es c) :: Gj s0) [] (fun _ : {s' : σ // (lst s').Perm q} => .tuple #[]) (fun s' => (bx, .cells #[.map (some mb)] 88 (0, 0)) :: (mb, .map es c) :: Gj s'.1) (fun _ => []) := by
  refine R_ Tryz.func122 rfl rfl Tryz.ntmps122 rfl fun v0 => ?_
  refine f_ (d_ (a_ (o_ 0 bD_ rfl rfl rfl) rfl (pA_ 1 Tryz.underlying88 rfl rfl rfl fun rr => ?_)))
  refine e_ (b_ rfl (S_ ?_))
  refine aV_ (ι := {y : List Fc × Array Nat × Nat × σ // ItS Fc.val es y.2.1 y.1 ∧ c ≤ y.2.2.1 ∧ lst y.2.2.2 = y.1 ∧ (∀ z ∈ y.1, z ∈ q)}) (fun y => [(0, .func (.yield l) #[] #[]), (1, zp_ bx 0), (5, zp_ rr 0)]) (fun y => ((rr, .mapIter (some mb) c y.1.2.1 y.1.2.2.1) :: ((bx, .cells #[.map (some mb)] 88 (0, 0)) :: ((mb, .map es c) :: (Gj y.1.2.2.2))))) (fun y => []) (fun y => List.length q - List.length y.1.1) ⟨([], #[], c, s0), ItS.nil, Nat.le_refl _, hs0, by simp⟩ ⟨rfl, rfl, rfl, trivial⟩ (l_ i_ (l_ i_ (l_ i_ be_))) (fun _ _ _ => trivial) ?_
  rintro ⟨⟨done, seen, c0, s⟩, hI, hsc, hls, hsub⟩
  dsimp only at hI hsc hls hsub ⊢
  refine f_ (d_ ?_)
  refine qM_ 0 2 rfl rfl rfl hB.lt hsc rfl (fun h0 => ?_) (fun e he => ?_)
  · skip
    refine a_ (aq_ rfl rfl) rfl (e_ (b_ rfl (f_ (r_ rfl (ay_ rfl (aQ_ rfl ?_))))))
    exact ch_ Tryz.results122 ⟨s, by rw [hls]; exact hI.end Fc.val_inj hE h0⟩ rfl (l_ (c_ i_) (l_ (c_ i_) ad_)) (fun _ _ _ => trivial)
  · skip
    obtain ⟨k, hkq, hkd, hkv, hem, hI2⟩ := hI.step Fc.val_inj hE hB he
    refine a_ (aq_ rfl rfl) rfl (e_ (b_ rfl (f_ (n_ rfl (B_ (b_ rfl (S_ (f_ (d_ ?_)))))))))
    refine a_ (cc_ (oV_ 0 2 rfl rfl rfl hem hB) (show _ = Value.tuple #[Fc.val k, e.val] by rw [hkv])) rfl (a_ (aq_ rfl rfl) rfl (al_ aT_ rfl fun b1 => ?_))
    refine ae_ 0 M_ rfl rfl rfl rfl rfl rfl (e_ (b_ rfl (f_ ?_)))
    refine jK_ (ι := {s' : σ // lst s' = lst s ++ [k]}) (fun _ => [(0, .func (.yield l) #[] #[]), (1, zp_ bx 0), (5, zp_ rr 0), (13, .bool false)]) (fun z => ((b1, .cells (Fc.cells k).toArray 41 (0, 0)) :: ((rr, .mapIter (some mb) c (seen.push e.born) c) :: ((bx, .cells #[.map (some mb)] 88 (0, 0)) :: ((mb, .map es c) :: (Gj z.1)))))) (fun _ => []) ?_ ?_
    · skip
      refine cF_ ?_
      refine cu_ dE_ (g_ rfl) rfl rfl ?_
      refine cu_ dE_ (K_ 0 af_ M_ rfl rfl rfl) rfl rfl ?_
      refine hI_ (hY s k (by rw [hls]; have := fR_ hI2.nd (m := q) (fun z hz => by rcases List.mem_append.1 hz with hz | hz; exact hsub z hz; rw [List.mem_singleton] at hz; exact hz ▸ hkq); rw [List.length_append, List.length_singleton] at this; omega)) rfl rfl (c_ (c_ (c_ ad_))) (fun _ _ _ => trivial) rfl fun z => ?_
      refine cu_ dE_ (bg_ rfl) rfl rfl ?_
      refine dN_ ?_
      refine ft_ rfl ?_
      exact fS_ z ⟨rfl, rfl, rfl, rfl, trivial⟩ (l_ (m_ i_) (l_ (m_ i_) (l_ (m_ i_) (l_ ba_ be_)))) (fun _ _ h => h)
    · skip
      rintro ⟨s', hs'⟩
      dsimp only
      refine b_ rfl (r_ rfl (B_ (t_ rfl ?_)))
      exact ah_ ⟨(done ++ [k], seen.push e.born, c, s'), hI2, Nat.le_refl _, by rw [hs', hls], fun z hz => by rcases List.mem_append.1 hz with hz | hz; exact hsub z hz; rw [List.mem_singleton] at hz; exact hz ▸ hkq⟩ (by have := fR_ hI2.nd (m := q) (fun z hz => by rcases List.mem_append.1 hz with hz | hz; exact hsub z hz; rw [List.mem_singleton] at hz; exact hz ▸ hkq); rw [List.length_append, List.length_singleton] at this; dsimp only; rw [List.length_append, List.length_singleton]; omega) ⟨rfl, rfl, rfl, trivial⟩ (l_ (c_ i_) (l_ (c_ i_) (l_ (c_ i_) ad_))) (fun _ _ _ => trivial)
theorem pf_as2 {H A B C G : Hp} {b : Nat × Obj} (h : H.Perm ((b :: (A ++ (B ++ C))) ++ G)) : H.Perm ((b :: A) ++ B ++ (C ++ G)) := by simpa [List.append_assoc] using h
theorem rU_ {a b c d e : Nat × Obj} {Q : Hp} : (a :: b :: c :: (Q ++ [d, e])).Perm (e :: a :: b :: c :: (Q ++ [d])) := by
  have h1 : (a :: b :: c :: (Q ++ [d, e])) = (a :: b :: c :: (Q ++ [d])) ++ [e] := by simp
  rw [h1]; exact List.perm_append_comm
theorem pf_D6 {a b c d : Nat × Obj} {Q : Hp} : (a :: b :: c :: (Q ++ [d])).Perm ((a :: b :: Q) ++ [c, d]) := by
  simp only [List.cons_append]
  refine List.Perm.cons a (List.Perm.cons b ?_)
  have h2 : Q ++ [c, d] = (Q ++ [c]) ++ [d] := by simp
  rw [h2]
  show (([c] ++ Q) ++ [d]).Perm _
  exact List.Perm.append_right _ List.perm_append_comm
theorem rp_ (mb bx c : Nat) (es : Array MapEntry) (q : List Fc) (hE : SetE Fc.val es q) (hB : Born es c) (hql : q.length ≤ 1000000000000) : Tri Tryz.prog 159 #[.slice none 0 0, .func (.func 122) #[] #[zp_ bx 0]] [(bx, .cells #[.map (some mb)] 88 (0, 0)), (mb, .map es c)] [] (fun y : {y : Value × Hp × List Fc // bt_ 41 6 y.1 y.2.2.length (y.2.2.flatMap Fc.cells) y.2.1 ∧ y.2.2.Perm q} => y.1.1) (fun y => (bx, .cells #[.map (some mb)] 88 (0, 0)) :: (mb, .map es c) :: y.1.2.1) (fun _ => []) := by
  refine hV_ Tryz.func159 rfl rfl Tryz.ntmps159 rfl fun v0 => ?_
  refine f_ (d_ (aI_ rfl rfl fun b1 => ?_))
  refine a_ (h_ rfl) rfl (e_ (b_ rfl (f_ (f_ (d_ (a_ (g_ rfl) rfl (e_ (b_ rfl (S_ ?_)))))))))
  refine bT_ [(2, zp_ b1 0), (6, .func (.func 122) #[] #[zp_ bx 0])] ⟨rfl, rfl, trivial⟩ ?_
  refine ny_ (σ := {y : Value × Hp × List Fc // bt_ 41 6 y.1 y.2.2.length (y.2.2.flatMap Fc.cells) y.2.1}) (α := Fc) (xv := Fc.val) (good := fun s _ => s.1.2.2.length < 1000000000000) (nx := fun x s s' => s'.1.2.2 = s.1.2.2 ++ [x]) (Rc := fun s => (s.1.2.2).Perm q) (Γi := []) (Hj := fun y => (b1, .cells #[y.1.1] 26 (0, 0)) :: y.1.2.1) (Hc := [(bx, .cells #[.map (some mb)] 88 (0, 0)), (mb, .map es c)]) (caps := [zp_ bx 0]) ⟨(.slice none 0 0, [], []), bt_.nil _ _⟩ rfl (@List.perm_append_comm _ [_] _) (fun _ _ _ => trivial) ?_ ?_ ?_
  · rintro l D rec hp hst hpe ht hasg hbody ⟨⟨sv, Hq, L⟩, hr⟩ x hx
    dsimp only at hr hx ⊢
    refine md_ (ι := Nat) (Hj := fun y : {y : Value × Hp × List Fc // bt_ 41 6 y.1 y.2.2.length (y.2.2.flatMap Fc.cells) y.2.1} => (b1, .cells #[y.1.1] 26 (0, 0)) :: y.1.2.1) (s := ⟨(sv, Hq, L), hr⟩) (ok := fun s' => s'.1.2.2 = L ++ [x]) (Γ := []) (fun b2 => [(2, zp_ b1 0), (5, zp_ b2 0)]) (fun b2 => (b2, .cells (Fc.cells x).toArray 41 (0, 0)) :: (b1, .cells #[sv] 26 (0, 0)) :: Hq) hp hst hpe ht rfl ?_ ?_
    · intro n v0 H0 HL
      rw [hasg]
      dsimp only
      refine fI_.2 (ap_ (H' := (b1, .cells #[sv] 26 (0, 0)) :: (Hq ++ HL)) (by simp) (fI_.1 ?_))
      refine cF_ ?_
      refine ka_ (cw_ _) aT_ rfl fun b2 => ?_
      refine fq_ (cw_ _) 0 M_ rfl rfl rfl rfl rfl rfl ?_
      refine dN_ ?_
      refine ft_ rfl ?_
      exact fS_ b2 ⟨rfl, rfl, trivial⟩ (F := []) (by rw [List.append_nil]; exact .refl _) (fun _ _ h => h)
    · intro n v0 H0 HL b2
      rw [hbody]
      refine fI_.2 (ap_ (H' := (b2, .cells (Fc.cells x).toArray 41 (0, 0)) :: (b1, .cells #[sv] 26 (0, 0)) :: (Hq ++ HL)) (by simp) (fI_.1 ?_))
      refine jM_ ?_
      refine cF_ ?_
      refine cu_ (cw_ _) (o_ 1 cI_ rfl rfl rfl) rfl rfl ?_
      refine cu_ (cw_ _) (K_ 0 af_ M_ rfl rfl rfl) rfl rfl ?_
      refine pF_ (cw_ _) az_ M_ aT_ rfl rfl rfl rfl rfl rfl fun b3 => ?_
      refine mK_ (cw_ _) (news := List.flatMap Fc.cells [x]) lO_ hr rfl rfl (c_ (c_ (c_ q_))) rfl (df_ 0 rfl) (fun u hu => cf_ Fc.cells_one hu) (by simp only [maxLen]; omega) (by omega) rfl fun sv1 Hr1 hr1 => ?_
      have hq1 : bt_ 41 6 sv1 (List.length (L ++ [x])) (List.flatMap Fc.cells (L ++ [x])) Hr1 := by rw [List.length_append, List.flatMap_append]; exact hr1
      refine qN_ (aY_ (m_ i_) (aY_ (m_ i_) (cn_ (m_ i_)))) ?_
      refine kH_ (cw_ _) 2 hq1 dI_ rfl rfl rfl rfl ?_
      refine dN_ ?_
      refine ft_ rfl ?_
      exact nz_ ⟨(sv1, Hr1, (L ++ [x])), hq1⟩ rfl (pf_as2 (l_ (c_ (c_ i_)) (y_ (c_ (c_ q_)) (y_ (c_ ad_) (l_ i_ i_)))))
  · intro l Gj hY
    exact se_ (lst := fun y => y.1.2.2) (fun s x h => hY s x h) ⟨(.slice none 0 0, [], []), bt_.nil _ _⟩ rfl mb bx c es q hE hB hql
  · rintro ⟨⟨sv, Hq, L⟩, hr⟩ hL D l r
    dsimp only at hL hr ⊢
    refine eC_ rfl ?_
    refine gN_ ?_
    refine cF_ ?_
    refine cu_ dE_ (o_ 2 cI_ rfl rfl rfl) rfl rfl ?_
    refine cu_ dE_ (h_ rfl) rfl rfl ?_
    refine dN_ ?_
    refine eC_ rfl ?_
    refine jL_ ?_
    exact qz_ (G := (bx, .cells #[.map (some mb)] 88 (0, 0)) :: (mb, .map es c) :: (b1, .cells #[sv] 26 (0, 0)) :: (Hq ++ [(l, .loop r)])) ⟨(sv, Hq, L), hr, hL⟩ (fun a v h1 h2 => by have e := h1.val 4 sv rfl; simp [results, Tryz.results159, e]) (by unfold HLp; simp only [List.cons_append, List.append_assoc, List.nil_append]; exact rU_) ⟨_, pf_D6⟩ rfl
end Go.Proofs.YtpdbbglpbngeiaaGreatDoor
namespace Go.Proofs.YtpdbbglpbngeiaaGreatDoor
open Go Go.Sx Go.Proofs
attribute [local irreducible] Code.wp wpList wpAnyH
open Go.Vs
theorem pa_ {L q : List Fc} (h : L.Perm q) (hn : q.Nodup) : fv_ L = fv_ q :=
  Srt.ext (hY_ (h.nodup_iff.2 hn)) (hY_ hn) fun x => by rw [hZ_, hZ_]; exact h.mem_iff
theorem pX_ (mb bx c : Nat) (es : Array MapEntry) (q : List Fc) (hE : SetE Fc.val es q) (hB : Born es c) (hql : q.length ≤ 1000000000000) : Tri Tryz.prog 121 #[.func (.func 122) #[] #[zp_ bx 0]] [(bx, .cells #[.map (some mb)] 88 (0, 0)), (mb, .map es c)] [] (fun y : {y : Value × Hp × List Fc // bt_ 41 6 y.1 y.2.2.length (y.2.2.flatMap Fc.cells) y.2.1 ∧ y.2.2.Perm q} => y.1.1) (fun y => (bx, .cells #[.map (some mb)] 88 (0, 0)) :: (mb, .map es c) :: y.1.2.1) (fun _ => []) := by
  refine R_ Tryz.func121 rfl rfl Tryz.ntmps121 rfl fun v0 => ?_
  refine f_ (d_ (a_ (h_ rfl) rfl (e_ (b_ rfl (f_ (d_ (a_ (g_ rfl) rfl (Q_ (rp_ mb bx c es q hE hB hql) rfl (l_ i_ i_) (fun _ _ _ => by exact trivial) rfl fun ⟨⟨sv1, Hq1, L1⟩, hr1, hL1⟩ => ?_))))))))
  dsimp only
  simp only [List.cons_append, List.append_nil]
  refine a_ (h_ rfl) rfl (e_ (b_ rfl (D_ ?_)))
  exact ar_ Tryz.results121 ⟨(sv1, Hq1, L1), hr1, hL1⟩ rfl (l_ i_ (l_ i_ be_)) (fun _ _ _ => trivial)
theorem pc_ (mb bx c : Nat) (es : Array MapEntry) (q : List Fc) (hE : SetE Fc.val es q) (hB : Born es c) (hql : q.length ≤ 1000000000000) : Tri Tryz.prog 68 #[.func (.func 122) #[] #[zp_ bx 0], .func (.func 61) #[] #[]] [(bx, .cells #[.map (some mb)] 88 (0, 0)), (mb, .map es c)] [] (fun y : {y : Option Addr × Nat // (fv_ q).length ≤ y.2 ∧ y.2 ≤ maxLen ∧ (y.1 = none → y.2 = 0)} => .slice y.1.1 (fv_ q).length y.1.2) (fun _ => []) (fun y => [bb_ y.1.1 ((fv_ q).flatMap Fc.cells)]) := by
  refine R_ Tryz.func68 rfl rfl Tryz.ntmps68 rfl fun v0 => ?_
  refine f_ (d_ (a_ (h_ rfl) rfl (e_ (b_ rfl (f_ (d_ (a_ (g_ rfl) rfl (Q_ (pX_ mb bx c es q hE hB hql) rfl (l_ i_ i_) (fun _ _ _ => by exact trivial) rfl fun ⟨⟨sv1, Hq1, L1⟩, hr1, hL1⟩ => ?_))))))))
  dsimp only
  simp only [List.cons_append, List.append_nil]
  refine a_ (h_ rfl) rfl (e_ (b_ rfl (f_ (d_ (a_ (g_ rfl) rfl (a_ (g_ rfl) rfl (Q_ (om_ hr1 (by have := hL1.length_eq; omega)) rfl (c_ ad_) (fun _ _ _ => by exact trivial) rfl fun ⟨Hq9, hq9⟩ => ?_)))))))
  dsimp only
  refine e_ (b_ rfl (ap_ (aY_ (m_ i_) (cn_ ba_)) (f_ (d_ (a_ (g_ rfl) rfl (a_ (h_ rfl) rfl (e_ (b_ rfl (D_ ?_)))))))))
  rw [pa_ hL1 hE.nd] at hq9
  refine eL_ hq9 (c_ ad_) fun ad2 cp2 had2 hcad2 hmad2 hzad2 => ?_
  exact ar_ Tryz.results68 ⟨(ad2, cp2), hcad2, hmad2, hzad2⟩ (jt_ rfl had2) X_ (fun v _ h => ⟨h.1, trivial⟩)
theorem sd_ (mb : Nat) : Tri Tryz.prog 69 #[.map (some mb)] [] [] (fun bx : Nat => .func (.func 122) #[] #[zp_ bx 0]) (fun bx => [(bx, .cells #[.map (some mb)] 88 (0, 0))]) (fun _ => []) := by
  refine R_ Tryz.func69 rfl rfl Tryz.ntmps69 rfl fun v0 => ?_
  refine f_ (d_ (aI_ rfl rfl fun b1 => ?_))
  refine a_ (h_ rfl) rfl (e_ (b_ rfl (f_ (d_ (a_ (cp_ rfl rfl) rfl (a_ (h_ rfl) rfl (e_ (b_ rfl (D_ ?_)))))))))
  exact ar_ Tryz.results69 b1 rfl (F := []) (.refl _) (fun _ _ _ => trivial)
end Go.Proofs.YtpdbbglpbngeiaaGreatDoor
namespace Go.Proofs.YtpdbbglpbngeiaaGreatDoor
open Go Go.Sx Go.Proofs
attribute [local irreducible] Code.wp wpList wpAnyH
open Go.Vs
theorem ng_ {A : List Str} {f : Fc} (h : cy_ A f = true) : f.form := by
  unfold cy_ at h
  simp only [Bool.and_eq_true, decide_eq_true_eq] at h
  obtain ⟨_, h⟩ := h
  split at h
  · simp only [Bool.and_eq_true, decide_eq_true_eq, dQ_] at h
    exact .inl ⟨_, _, h.2⟩
  · split at h
    · simp only [Bool.and_eq_true, decide_eq_true_eq] at h
      exact .inr (.inl ⟨_, _, _, h.2.2, h.2.1⟩)
    · split at h
      · simp only [Bool.and_eq_true, decide_eq_true_eq] at h
        exact .inr (.inr ⟨_, _, _, _, h.2.1, h.1, h.2.2.1, h.2.2.2.1, h.2.2.2.2⟩)
      · simp at h
theorem qa_ {at' : List Str} {fs : List Fc} (h : dR_ at' fs = 0) : ChkC at' fs ∧ fs.length ≤ 65536 := by
  unfold dR_ at h
  split at h
  · rename_i h1
    split at h
    · simp at h
    · exact ⟨jv_.1 h1, by omega⟩
  · simp at h
def gF_ (p : List Pc) (at' : List Str) (fs l : List Fc) (e : Int) : Prop :=
  if bX_ p ≠ 0 then l = [] ∧ e = bX_ p
  else if dR_ at' fs ≠ 0 then l = [] ∧ e = dR_ at' fs
  else e = 0 ∧ Srt l ∧ ∀ y, y ∈ l ↔ eb_ p (atS p) (· ∈ fs) y ∧ y ∉ fs
theorem rZ_ {p : List Pc} {at' : List Str} {fs : List Fc} (h : bX_ p ≠ 0) : gF_ p at' fs [] (bX_ p) := by unfold gF_; rw [if_pos h]; exact ⟨rfl, rfl⟩
theorem sa_ {p : List Pc} {at' : List Str} {fs : List Fc} (h : bX_ p = 0) (h2 : dR_ at' fs ≠ 0) : gF_ p at' fs [] (dR_ at' fs) := by unfold gF_; rw [if_neg (by simp [h]), if_pos h2]; exact ⟨rfl, rfl⟩
theorem qO_ {p : List Pc} {at' : List Str} {fs q fm : List Fc} {k : Nat} (h : bX_ p = 0) (h2 : dR_ at' fs = 0) (hI : InvN (uniq [] p) (atS p) fs k (q, fm)) (hk : fs.length ≤ k) (hk2 : k ≤ fs.length) (hn : q.Nodup) : gF_ p at' fs (fv_ q) 0 := by
  unfold gF_; rw [if_neg (by simp [h]), if_neg (by simp [h2])]
  obtain rfl : k = fs.length := by omega
  refine ⟨rfl, hY_ hn, fun y => ?_⟩
  rw [hZ_, ld_ hI, mi_]
theorem pI_ {p : List Pc} {fs q : List Fc} {A : List Str} (hF : ∀ y ∈ fs, y.form) (hp : p.length ≤ 100) (hA : A.length ≤ 1000) (hl : fs.length ≤ 65536) (hn : q.Nodup) (hq : ∀ y ∈ q, eb_ p A (· ∈ fs) y) : q.length ≤ 1000000000000 := by
  have h1 := fR_ hn (m := gV_ p A ++ fs.flatMap (fun f => eH_ p fs f)) fun y hy => (ke_ hF y).2 (hq y hy)
  have h2 : (fs.flatMap (fun f => eH_ p fs f)).length ≤ fs.length * 14000000 := hz_ fs fun x _ => oZ_ hp hl
  have h3 : (gV_ p A).length ≤ A.length * 102 := hz_ A fun x _ => by
    simp only [List.length_cons, List.length_map]
    have := List.length_filter_le (fun x : Pc => decide (x.kind = 7)) p
    omega
  rw [List.length_append] at h1
  omega
theorem qX_ (fs : List Fc) : Ix.nil.of (fun y => y ∈ List.take 0 fs) (fun _ => True) := by
  have e : (fun y => y ∈ fs.take 0) = (fun _ => False) := funext fun y => by simp
  rw [e]; exact Ix.of_nil _
theorem sf_ {x : Ix} {fs : List Fc} {i : Nat} {f : Fc} (h : x.of (fun y => y ∈ List.take i fs) (fun _ => True)) (hf : fs[i]? = some f) : (x.add (decide (f ∈ List.take (i + 1) fs)) f).of (fun y => y ∈ List.take (i + 1) fs) (fun _ => True) := by
  have hm : f ∈ List.take (i + 1) fs := by rw [List.take_add_one, hf]; simp
  have := Ix.of_add h f (b := decide (f ∈ List.take (i + 1) fs)) (by simp [hm])
  have e : (fun y => y ∈ List.take (i + 1) fs) = (fun y => y ∈ List.take i fs ∨ y = f) := funext fun y => by rw [List.take_add_one, hf]; simp
  rw [e]; exact this
theorem rS_ {F Ha Hu Ho Hi Hr Hm : Hp} {a b c : Nat × Obj} : ((Ha ++ (Hu ++ (Ho ++ (Hi ++ (Hr ++ (Hm ++ [a, b, c])))))) ++ F).Perm (Ha ++ (Hu ++ (Ho ++ (Hi ++ (Hr ++ (Hm ++ (a :: b :: c :: F))))))) := by simp [List.append_assoc]
set_option maxHeartbeats 4000000 in
theorem next_c (p : List Pc) (pad : Option Addr) (pcap : Nat) (c : Cl) (hsm : ∀ x ∈ p, x.sm) (hp : p.length ≤ 100) (hca : c.atoms.length ≤ 1000000000000) (hcf : c.facts.length ≤ 1000000000000) : Tri Tryz.prog 22 #[.slice pad (List.length p) pcap, Cl.val c] [] [bb_ pad (List.flatMap Pc.cells p), gG_, bb_ (Cl.aad c) (List.flatMap bf_ (Cl.atoms c)), bb_ (Cl.fad c) (List.flatMap Fc.cells (Cl.facts c))] (fun y : {y : Option Addr × Nat × List Fc × Int // (y.2.2.1.length ≤ y.2.1 ∧ y.2.1 ≤ maxLen ∧ (y.1 = none → y.2.1 = 0)) ∧ gF_ p c.atoms c.facts y.2.2.1 y.2.2.2} => .tuple #[.slice y.1.1 y.1.2.2.1.length y.1.2.1, .int .i64 y.1.2.2.2]) (fun _ => []) (fun y => [bb_ y.1.1 (y.1.2.2.1.flatMap Fc.cells)]) := by
 refine R_ Tryz.func22 rfl rfl Tryz.ntmps22 rfl fun v0 => ?_
 refine f_ (d_ (aI_ rfl rfl fun b1 => ?_))
 refine a_ (h_ rfl) rfl (a_ (h_ rfl) rfl (e_ (b_ rfl (f_ (f_ (d_ (a_ (g_ rfl) rfl (Q_ (oM_ p pad pcap (by omega) hsm) rfl X_ (fun v _ h => by exact ⟨h.1, h.2.1, trivial⟩) rfl fun _ => ?_))))))))
 refine a_ (h_ rfl) rfl (e_ (b_ rfl (f_ (d_ (a_ (g_ rfl) rfl (z_ (cJ_ rfl rfl) rfl fun r1 hr1 => ?_))))))
 refine e_ (b_ rfl ?_)
 cases r1
 ·
  replace hr1 := bN_ hr1
  have hchk := hr1
  refine r_ rfl (B_ (b_ rfl (f_ (f_ (d_ (a_ (K_ 0 bE_ aH_ rfl rfl rfl) rfl (Q_ (chk_c c hca hcf) rfl X_ (fun v _ h => by exact ⟨h.2.2.1, h.2.2.2.1, trivial⟩) rfl fun _ => ?_)))))))
  refine a_ (h_ rfl) rfl (e_ (b_ rfl (f_ (d_ (a_ (g_ rfl) rfl (z_ (cJ_ rfl rfl) rfl fun r2 hr2 => ?_))))))
  refine e_ (b_ rfl ?_)
  cases r2
  ·
   replace hr2 := bN_ hr2
   have hchc := hr2
   refine r_ rfl (B_ (b_ rfl (f_ ?_)))
   have hvk := mh_ (iR_ hchk)
   obtain ⟨hcc, hfl⟩ := qa_ hchc
   have hform : ∀ y ∈ (Cl.facts c), y.form := fun y hy => ng_ (hcc.ok y hy)
   have hnd : ((Cl.facts c)).Nodup := hcc.sf.nodup
   have hpl : ∀ k, (lat (aP_ (uniq [] p)) k).length ≤ 1000000000 := fun k => by have h1 := fc_ (aP_ (uniq [] p)) k; have h2 := id_ (uniq [] p); have h3 := fM_ p []; simp only [List.length_nil] at h3; omega
   refine d_ (a_ (g_ rfl) rfl (Q_ (iY_ p pad pcap (by omega)) rfl X_ (fun v _ h => by exact ⟨h.1, trivial⟩) rfl fun ⟨⟨g, pb, kb, ab, ub, ob, ib, rb, sb, fb, lv, hm0, hl0⟩, hy⟩ => ?_))
   dsimp only
   dsimp only [NewE.own, NewE.ok] at hy ⊢
   obtain ⟨hym, hyl⟩ := hy
   simp only [List.cons_append, List.append_assoc]
   refine eL_ hyl (c_ (c_ (c_ (c_ (c_ (c_ (c_ (c_ (c_ (m_ q_)))))))))) fun lad lcap hlad hclad hmlad hzlad => ?_
   subst hlad
   refine al_ Tryz.zeroValue85 rfl fun b2 => ?_
   refine ap_ (aY_ i_ (aY_ i_ (aY_ i_ (aY_ i_ (aY_ i_ (aY_ i_ (aY_ i_ (aY_ i_ (aY_ i_ (aY_ i_ (cn_ ba_))))))))))) (ae_ 0 Tryz.sizeOf85 rfl rfl rfl rfl rfl rfl (e_ (b_ rfl (f_ (d_ (cv_ rfl fun nb => ?_))))))
   refine al_ Tryz.zeroValue88 rfl fun b3 => ?_
   refine ae_ 0 bv_ rfl rfl rfl rfl rfl rfl (e_ (b_ rfl (f_ (d_ (a_ (o_ 2 bw_ rfl rfl rfl) rfl (a_ (cp_ rfl rfl) rfl (a_ (ag_ rfl) rfl (a_ (k_ F_ rfl rfl rfl aR_) rfl (ae_ 3 aR_ rfl rfl rfl rfl rfl rfl ?_)))))))))
   refine e_ (b_ rfl (f_ (f_ (eF_ (ct_ b2 (.cells #[zp_ g 0] 85 (0, 0))) (cn_ (c_ (c_ i_))) (fun _ h1 h2 _ => ⟨h1, h2⟩) ?_))))
   refine eF_ (ct_ b3 (.cells #[.map (some nb)] 88 (0, 0))) (cn_ i_) (fun _ h1 h2 _ => ⟨h1, h2⟩) ?_
   refine eF_ (ct_ g (.cells #[.map (some pb), .slice lad (List.length (ak_ (uniq [] p))) lcap, .map (some kb), .func (.func 67) #[] #[zp_ b2 0, zp_ b3 0], .map (some ab), .map (some ub), .map (some ob), .map (some ib), .map (some rb), .map (some sb), .map (some fb)] 94 (0, 0))) (cn_ (c_ i_)) (fun _ h1 h2 _ => ⟨h1, h2⟩) ?_
   refine mL_ fV_ hym (c_ (c_ (c_ (c_ (c_ (c_ (c_ (c_ (c_ ad_))))))))) fun adr => ?_
   refine d_ (a_ (k_ bz_ rfl rfl rfl dI_) rfl (a_ (o_ 9 cI_ rfl rfl rfl) rfl (a_ (at_ az_ rfl) rfl (a_ (g_ rfl) rfl (e_ (b_ rfl (S_ ?_)))))))
   refine aV_ (ι := {y : Nat × Ix × Array MapEntry × Nat × Array MapEntry × Nat × Hp × Hp × Hp × Hp × Hp × Hp // y.1 ≤ List.length (Cl.facts c) ∧ SetE Fc.val y.2.2.1 (List.take y.1 (Cl.facts c)) ∧ SetE Fc.val y.2.2.2.2.1 (List.take y.1 (Cl.facts c)) ∧ IxO 9 41 (EngB.mk g pb ab ub ob ib rb sb lad lcap (ak_ (uniq [] p))) y.2.1 ⟨y.2.2.2.2.2.2.1, y.2.2.2.2.2.2.2.1, y.2.2.2.2.2.2.2.2.1, y.2.2.2.2.2.2.2.2.2.1, y.2.2.2.2.2.2.2.2.2.2.1, y.2.2.2.2.2.2.2.2.2.2.2⟩ ∧ mV_ y.2.1 y.1 ∧ y.2.1.of (fun z => z ∈ (List.take y.1 (Cl.facts c))) (fun _ => True)}) (fun y => [(0, .slice pad (List.length p) pcap), (3, zp_ b1 0), (8, zp_ b2 0), (9, zp_ b3 0), (35, .slice (Cl.fad c) (List.length (Cl.facts c)) (Cl.fcap c)), (36, .int .i64 (List.length (Cl.facts c) : Int)), (37, .int .i64 (y.1.1 : Int))]) (fun y => ((b1, .cells (Cl.cells c).toArray 28 (0, 0)) :: ((nb, .map #[] 0) :: ((kb, .map y.1.2.2.1 y.1.2.2.2.1) :: ((fb, .map y.1.2.2.2.2.1 y.1.2.2.2.2.2.1) :: (y.1.2.2.2.2.2.2.1 ++ (y.1.2.2.2.2.2.2.2.1 ++ (y.1.2.2.2.2.2.2.2.2.1 ++ (y.1.2.2.2.2.2.2.2.2.2.1 ++ (y.1.2.2.2.2.2.2.2.2.2.2.1 ++ y.1.2.2.2.2.2.2.2.2.2.2.2)))))))))) (fun y => [mlF Tryz.prog 171 Ky.val Pc.cells pb (aP_ (uniq [] p)) adr, ct_ g (.cells #[.map (some pb), .slice lad (List.length (ak_ (uniq [] p))) lcap, .map (some kb), .func (.func 67) #[] #[zp_ b2 0, zp_ b3 0], .map (some ab), .map (some ub), .map (some ob), .map (some ib), .map (some rb), .map (some sb), .map (some fb)] 94 (0, 0)), ct_ b3 (.cells #[.map (some nb)] 88 (0, 0)), ct_ b2 (.cells #[zp_ g 0] 85 (0, 0)), bb_ lad (List.flatMap bf_ (ak_ (uniq [] p))), bb_ pad (List.flatMap Pc.cells p), gG_, bb_ (Cl.aad c) (List.flatMap bf_ (Cl.atoms c)), bb_ (Cl.fad c) (List.flatMap Fc.cells (Cl.facts c))]) (fun y => List.length (Cl.facts c) - y.1.1) ⟨((0 : Nat), Ix.nil, #[], 0, #[], 0, [(ab, .map #[] 0)], [(ub, .map #[] 0)], [(ob, .map #[] 0)], [(ib, .map #[] 0)], [(rb, .map #[] 0)], [(sb, .map #[] 0)]), by simp, by exact SetE.nil, by exact SetE.nil, ⟨dm_.nil _ _, dm_.nil _ _, dm_.nil _ _, dm_.nil _ _, dm_.nil _ _, dm_.nil _ _⟩, mU_, qX_ _⟩ ⟨rfl, rfl, rfl, rfl, rfl, rfl, rfl, trivial⟩ (l_ (c_ (c_ (c_ (c_ (c_ (c_ (c_ (c_ (c_ i_))))))))) (l_ i_ (l_ i_ (l_ (c_ (c_ (c_ (c_ (c_ (c_ i_)))))) (l_ i_ (l_ i_ (l_ i_ (l_ i_ (l_ i_ i_))))))))) (fun _ _ h => h) ?_
   rintro ⟨⟨i, x, es, c1, es2, c2, Ha, Hu, Ho, Hi, Hr, Hm⟩, hi, hK, hF, hI, hz, hxo⟩
   dsimp only at hi hK hF hI hz hxo ⊢
   obtain ⟨hxl, hyl⟩ := ik_ hz (by omega)
   refine f_ (d_ (z_ (aC_ rfl rfl) rfl fun r3 hr3 => ?_))
   refine e_ (b_ rfl (f_ ?_))
   cases r3
   ·
    replace hr3 := of_decide_eq_false hr3
    have e9 : (List.take i (Cl.facts c)) = (Cl.facts c) := List.take_of_length_le (by omega)
    rw [e9] at hK hF hxo
    refine r_ rfl (ay_ rfl (b_ rfl (f_ ?_)))
    refine aD_ ((b1, .cells (Cl.cells c).toArray 28 (0, 0)) :: (Ha ++ (Hu ++ (Ho ++ (Hi ++ (Hr ++ Hm)))))) (by kernel_rfl) ?_
    refine ab_ 2 [0, 1] (by kernel_rfl) (fun _ a b => ⟨Vw.sat.sub (a.perm (l_ i_ (y_ (c_ (c_ (c_ q_))) (y_ (c_ (c_ (c_ q_))) (y_ (c_ (c_ (c_ q_))) (y_ (c_ (c_ (c_ q_))) (y_ (c_ (c_ (c_ q_))) (c_ (c_ ad_))))))))), b⟩) (j_ rfl (Z_ bw_ rfl (fun v _ h => by exact h.2.2.2.1) rfl) rfl (j_ rfl (g_ rfl) rfl (aa_ (N_ 2 rfl (by kernel_rfl) (Q_ (sM_ p pad pcap (by omega)) rfl X_ (fun v _ h => by exact ⟨h.2.2.2.2.2.1, trivial⟩) rfl fun ⟨⟨aad, acap⟩, hac, ham, haz⟩ => ?_)))))
    dsimp only
    refine e_ (t_ rfl (E_ (fun _ a b => ⟨Vw.sat.sub (a.perm (l_ i_ (y_ (c_ (c_ (c_ q_))) (y_ (c_ (c_ (c_ q_))) (y_ (c_ (c_ (c_ q_))) (y_ (c_ (c_ (c_ q_))) (y_ (c_ (c_ (c_ q_))) (c_ (c_ ad_))))))))), b.2⟩) (N_ 3 rfl (by kernel_rfl) (Q_ (oO_ (EngB.mk g pb ab ub ob ib rb sb lad lcap (ak_ (uniq [] p))) (EN (Cl.facts c) (EngB.mk g pb ab ub ob ib rb sb lad lcap (ak_ (uniq [] p))) b2 b3 kb fb nb) [] (Cl.facts c) [(nb, .map #[] 0), (kb, .map es c1), (fb, .map es2 c2)] ⟨es, c1, es2, c2, (Cl.facts c), #[], 0, rfl, SetE.nil, hK, hF, fun _ => Iff.rfl, Born.nil 0⟩ (atS p) aad acap (by have := jw_ p; omega) (by have := gS_ (uniq [] p); have h3 := fM_ p []; simp only [List.length_nil] at h3; show (ak_ (uniq [] p)).length ≤ _; omega)) rfl (l_ (c_ i_) (l_ (c_ i_) (c_ i_))) (fun v _ h => by exact ⟨h.2.2.1, h.2.2.2.2.2.1, h.1, ⟨h.2.2.2.2.1, h.2.2.2.1, h.2.2.1⟩, trivial⟩) rfl fun ⟨Hs1, hS1⟩ => ?_))))
    dsimp only
    refine e_ (t_ rfl (E_ (fun _ a b => ⟨Vw.sat.sub (a.perm (l_ (m_ i_) (y_ (m_ q_) (y_ (m_ q_) (y_ (m_ q_) (y_ (m_ q_) (y_ (m_ q_) ba_))))))), b.2⟩) (Y_ (by kernel_rfl) (b_ rfl (ap_ (cn_ (m_ i_)) (f_ (d_ (a_ (Z_ bw_ rfl (fun v _ h => by exact h.2.2.2.2.1) rfl) rfl (Q_ (on_ g) rfl X_ (fun _ _ _ => by exact trivial) rfl fun ⟨r1, r2, r3⟩ => ?_)))))))))
    dsimp only
    refine al_ Tryz.zeroValue98 rfl fun b4 => ?_
    refine ae_ 0 Tryz.sizeOf98 rfl rfl rfl rfl rfl rfl (e_ (b_ rfl (f_ (f_ (d_ (a_ (k_ bz_ rfl rfl rfl dI_) rfl (a_ (o_ 1 cI_ rfl rfl rfl) rfl (a_ (at_ az_ rfl) rfl (a_ (g_ rfl) rfl ?_)))))))))
    refine e_ (b_ rfl (S_ ?_))
    refine aV_ (ι := {y : Nat × List Fc × List Fc × Hp // y.1 ≤ List.length (Cl.facts c) ∧ InvN (uniq [] p) (atS p) (Cl.facts c) y.1 (y.2.1, y.2.2.1) ∧ ((EN (Cl.facts c) (EngB.mk g pb ab ub ob ib rb sb lad lcap (ak_ (uniq [] p))) b2 b3 kb fb nb)).St y.2.1 y.2.2.1 y.2.2.2}) (fun y => [(0, .slice pad (List.length p) pcap), (3, zp_ b1 0), (8, zp_ b2 0), (9, zp_ b3 0), (12, zp_ b4 0), (62, .slice (Cl.fad c) (List.length (Cl.facts c)) (Cl.fcap c)), (63, .int .i64 (List.length (Cl.facts c) : Int)), (64, .int .i64 (y.1.1 : Int))]) (fun y => ((b1, .cells (Cl.cells c).toArray 28 (0, 0)) :: ((b4, .cells #[.slice none 0 0, .slice (some ⟨r1, 0, none⟩) 6 6, .slice (some ⟨r2, 0, none⟩) 4 4, .slice (some ⟨r3, 0, none⟩) 2 2] 98 (0, 0)) :: (Ha ++ (Hu ++ (Ho ++ (Hi ++ (Hr ++ (Hm ++ y.1.2.2.2))))))))) (fun y => [bb_ (some ⟨r1, 0, none⟩) (List.flatMap fvC (rlV g 1)), bb_ (some ⟨r2, 0, none⟩) (List.flatMap fvC (rlV g 2)), bb_ (some ⟨r3, 0, none⟩) (List.flatMap fvC (rlV g 3)), bb_ aad (List.flatMap bf_ (atS p)), mlF Tryz.prog 171 Ky.val Pc.cells pb (aP_ (uniq [] p)) adr, ct_ g (.cells #[.map (some pb), .slice lad (List.length (ak_ (uniq [] p))) lcap, .map (some kb), .func (.func 67) #[] #[zp_ b2 0, zp_ b3 0], .map (some ab), .map (some ub), .map (some ob), .map (some ib), .map (some rb), .map (some sb), .map (some fb)] 94 (0, 0)), ct_ b3 (.cells #[.map (some nb)] 88 (0, 0)), ct_ b2 (.cells #[zp_ g 0] 85 (0, 0)), bb_ lad (List.flatMap bf_ (ak_ (uniq [] p))), bb_ pad (List.flatMap Pc.cells p), gG_, bb_ (Cl.aad c) (List.flatMap bf_ (Cl.atoms c)), bb_ (Cl.fad c) (List.flatMap Fc.cells (Cl.facts c))]) (fun y => List.length (Cl.facts c) - y.1.1) ⟨((0 : Nat), (emits (dw_ (Cl.facts c)) (dU_ (ak_ (uniq [] p)) (atS p)) []), (Cl.facts c), Hs1), by simp, nP_ (fun _ h => h), by exact hS1⟩ ⟨rfl, rfl, rfl, rfl, rfl, rfl, rfl, rfl, trivial⟩ (l_ (c_ i_) (l_ i_ (y_ (m_ q_) (y_ (m_ q_) (y_ (m_ q_) (y_ (m_ q_) (y_ (m_ q_) (y_ ba_ be_)))))))) (fun _ _ h => h) ?_
    rintro ⟨⟨k, q, fm, Hs⟩, hkl, hN, hS⟩
    dsimp only at hkl hN hS ⊢
    refine f_ (d_ (z_ (aC_ rfl rfl) rfl fun r4 hr4 => ?_))
    refine e_ (b_ rfl (f_ ?_))
    cases r4
    ·
     replace hr4 := of_decide_eq_false hr4
     refine r_ rfl (ay_ rfl (b_ rfl (f_ ?_)))
     obtain ⟨es5, c5, es6, c6, q6, es7, c7, hHs, hE7, hE5, hE6, hq6, hB7⟩ := hS
     subst hHs
     have hone : ∀ y ∈ q, eb_ p (atS p) (· ∈ (Cl.facts c)) y := fun y hy => by have e : k = ((Cl.facts c)).length := (by omega); subst e; exact mi_.1 ((ld_ hN y).1 hy).1
     have hql := pI_ hform hp (by have := jw_ p; omega) hfl hE7.nd hone
     refine d_ (a_ (Z_ bD_ rfl (fun v _ h => by exact h.2.2.2.2.2.2.1) rfl) rfl (Q_ (sd_ nb) rfl X_ (fun _ _ _ => by exact trivial) rfl fun bx => ?_))
     refine Q_ (pc_ nb bx c7 es7 q hE7 hB7 hql) rfl (l_ i_ (c_ (c_ (m_ (m_ (m_ (m_ (m_ (m_ i_))))))))) (fun _ _ _ => by exact trivial) rfl fun ⟨⟨oad, ocap⟩, hoc, hom, hoz⟩ => ?_
     dsimp only
     refine a_ (h_ rfl) rfl (a_ (h_ rfl) rfl (e_ (b_ rfl (D_ ?_))))
     exact kG_ Tryz.results22 ⟨(oad, ocap, fv_ q, 0), ⟨hoc, hom, hoz⟩, qO_ hchk hchc hN (by omega) (by omega) hE7.nd⟩ rfl rfl rfl X_ (fun v _ h => by exact ⟨h.1, trivial⟩)
    ·
     replace hr4 := of_decide_eq_true hr4
     have hlf2 : k < List.length (Cl.facts c) := by omega
     obtain ⟨f2, hf2⟩ : ∃ e0, (Cl.facts c)[k]? = some e0 := ⟨_, List.getElem?_eq_getElem hlf2⟩
     have hmf2 : f2 ∈ (Cl.facts c) := List.mem_of_getElem? hf2
     have hform2 := hform f2 hmf2
     obtain ⟨hxl, hyl⟩ := ik_ hz (by omega)
     refine n_ rfl (B_ (b_ rfl (f_ (S_ (f_ (d_ (a_ (aj_ az_ M_ rfl rfl (fun v _ h => aO_ (n := 6) Fc.cells_len (by decide) (by exact h.2.2.2.2.2.2.2.2.2.2.2.2.1) hf2) (by omega) (by first | omega | (simp; done))) rfl (a_ (aG_ (ad := (Cl.fad c)) (us := Fc.cells f2) af_ M_ rfl (fun v _ h => by exact h.2.2.2.2.2.2.2.2.2.2.2.2.1) (Fc.cells_len _) (an_ Fc.cells_len hf2)) rfl (al_ aT_ rfl fun b5 => ?_)))))))))
     refine ae_ 0 M_ rfl rfl rfl rfl rfl rfl (e_ (b_ rfl (f_ (d_ (a_ (k_ s_ rfl rfl rfl I_) rfl (a_ (o_ 0 J_ rfl rfl rfl) rfl ?_))))))
     rcases fh_ hform2 with hk | hk | hk
     ·
      refine a_ (cc_ (dh_ dW_ hP_ rfl rfl (by omega) (by omega)) (show _ = zp_ b4 1 from by rw [hk]; rfl)) rfl (a_ (o_ 2 nN_ rfl rfl rfl) rfl (a_ (at_ bn_ rfl) rfl (a_ (g_ rfl) rfl (e_ (b_ rfl (S_ ?_))))))
      refine aV_ (ι := {y : Nat × Hp // y.1 ≤ 6 ∧ ((EN (Cl.facts c) (EngB.mk g pb ab ub ob ib rb sb lad lcap (ak_ (uniq [] p))) b2 b3 kb fb nb)).St (rls (dw_ (Cl.facts c)) (eN_ (Cl.facts c)) (aP_ (uniq [] p)) x f2 y.1 (q, fm)).1 (rls (dw_ (Cl.facts c)) (eN_ (Cl.facts c)) (aP_ (uniq [] p)) x f2 y.1 (q, fm)).2 y.2}) (fun y => [(0, .slice pad (List.length p) pcap), (3, zp_ b1 0), (8, zp_ b2 0), (9, zp_ b3 0), (12, zp_ b4 0), (14, zp_ b5 0), (62, .slice (Cl.fad c) (List.length (Cl.facts c)) (Cl.fcap c)), (63, .int .i64 (List.length (Cl.facts c) : Int)), (64, .int .i64 (k : Int)), (71, .slice (some ⟨r1, 0, none⟩) 6 6), (72, .int .i64 6), (73, .int .i64 (y.1.1 : Int))]) (fun y => ((b1, .cells (Cl.cells c).toArray 28 (0, 0)) :: ((b4, .cells #[.slice none 0 0, .slice (some ⟨r1, 0, none⟩) 6 6, .slice (some ⟨r2, 0, none⟩) 4 4, .slice (some ⟨r3, 0, none⟩) 2 2] 98 (0, 0)) :: ((b5, .cells (Fc.cells f2).toArray 41 (0, 0)) :: (Ha ++ (Hu ++ (Ho ++ (Hi ++ (Hr ++ (Hm ++ y.1.2)))))))))) (fun y => [bb_ (some ⟨r1, 0, none⟩) (List.flatMap fvC (rlV g 1)), bb_ (some ⟨r2, 0, none⟩) (List.flatMap fvC (rlV g 2)), bb_ (some ⟨r3, 0, none⟩) (List.flatMap fvC (rlV g 3)), bb_ aad (List.flatMap bf_ (atS p)), mlF Tryz.prog 171 Ky.val Pc.cells pb (aP_ (uniq [] p)) adr, ct_ g (.cells #[.map (some pb), .slice lad (List.length (ak_ (uniq [] p))) lcap, .map (some kb), .func (.func 67) #[] #[zp_ b2 0, zp_ b3 0], .map (some ab), .map (some ub), .map (some ob), .map (some ib), .map (some rb), .map (some sb), .map (some fb)] 94 (0, 0)), ct_ b3 (.cells #[.map (some nb)] 88 (0, 0)), ct_ b2 (.cells #[zp_ g 0] 85 (0, 0)), bb_ lad (List.flatMap bf_ (ak_ (uniq [] p))), bb_ pad (List.flatMap Pc.cells p), gG_, bb_ (Cl.aad c) (List.flatMap bf_ (Cl.atoms c)), bb_ (Cl.fad c) (List.flatMap Fc.cells (Cl.facts c))]) (fun y => 6 - y.1.1) ⟨((0 : Nat), Hs), by omega, by exact hS⟩ ⟨rfl, rfl, rfl, rfl, rfl, rfl, rfl, rfl, rfl, rfl, rfl, rfl, trivial⟩ (l_ (c_ i_) (l_ (c_ i_) (l_ i_ (y_ q_ (y_ q_ (y_ q_ (y_ q_ (y_ q_ (y_ q_ be_))))))))) (fun _ _ h => h) ?_
      rintro ⟨⟨j, Hs⟩, hj, hS2⟩
      dsimp only at hj hS2 ⊢
      refine f_ (d_ (z_ (aC_ rfl rfl) rfl fun r5 hr5 => ?_))
      refine e_ (b_ rfl (f_ ?_))
      cases r5
      ·
       replace hr5 := of_decide_eq_false hr5
       have ej : j = 6 := by omega
       rw [ej] at hS2
       refine r_ rfl (ay_ rfl (b_ rfl (d_ (a_ (V_ rfl rfl rfl (am_ (by omega) (by omega))) rfl (a_ (g_ rfl) rfl (e_ (t_ rfl ?_)))))))
       exact ah_ ⟨(k + 1, (rls (dw_ (Cl.facts c)) (eN_ (Cl.facts c)) (aP_ (uniq [] p)) x f2 6 (q, fm)).1, (rls (dw_ (Cl.facts c)) (eN_ (Cl.facts c)) (aP_ (uniq [] p)) x f2 6 (q, fm)).2, Hs), hlf2, (iK_ hvk hxo hform hN hf2 (by have e : nrl f2 = 6 := (by unfold nrl; simp [hk]); rw [e])), by exact (by exact hS2)⟩ (by dsimp only; omega) ⟨rfl, rfl, rfl, rfl, rfl, rfl, rfl, rfl, trivial⟩ (l_ i_ (l_ i_ (y_ (c_ q_) (y_ (c_ q_) (y_ (c_ q_) (y_ (c_ q_) (y_ (c_ q_) (y_ (c_ q_) ad_)))))))) (fun _ _ h => h)
      ·
       replace hr5 := of_decide_eq_true hr5
       have hlfv : j < List.length (rlV g 1) := by show j < 6; omega
       obtain ⟨fv, hfv⟩ : ∃ e0, (rlV g 1)[j]? = some e0 := ⟨_, List.getElem?_eq_getElem hlfv⟩
       have hmfv : fv ∈ (rlV g 1) := List.mem_of_getElem? hfv
       refine n_ rfl (B_ (b_ rfl (f_ (S_ (f_ (d_ (a_ (aj_ bn_ aR_ rfl rfl (fun v _ h => aO_ (n := 1) ec_ (by decide) (by exact h.1) hfv) (by omega) (by omega)) rfl (a_ (bA_ (ad := (some ⟨r1, 0, none⟩)) bj_ rfl (fun v _ h => by exact h.1) (an_ ec_ hfv 0 _ rfl)) rfl (a_ (h_ rfl) rfl ?_)))))))))
       refine e_ (b_ rfl (d_ (a_ (g_ rfl) rfl (a_ (K_ 2 af_ M_ rfl rfl rfl) rfl ?_))))
       obtain ⟨nr, rfl, hT⟩ := oq_ (EngB.mk g pb ab ub ob ib rb sb lad lcap (ak_ (uniq [] p))) (EN (Cl.facts c) (EngB.mk g pb ab ub ob ib rb sb lad lcap (ak_ (uniq [] p))) b2 b3 kb fb nb) (EngA.mk adr (fun _ => (none, 0)) (fun _ => (none, 0)) (fun _ => (none, 0)) (fun _ => (none, 0)) (fun _ => (none, 0)) (fun _ => (none, 0))) (aP_ (uniq [] p)) x f2 (rls (dw_ (Cl.facts c)) (eN_ (Cl.facts c)) (aP_ (uniq [] p)) x f2 j (q, fm)).1 (rls (dw_ (Cl.facts c)) (eN_ (Cl.facts c)) (aP_ (uniq [] p)) x f2 j (q, fm)).2 Hs hS2 Ha Hu Ho Hi Hr Hm hI hpl hxl hyl (fun hk => (fs_ hform2 hk).2.2) (fun _ y hy => (hvk y (pm9.1 hy).1).num (.inr (pm9.1 hy).2.1)) hk j hfv
       refine aF_ (first := [zp_ g 0]) (vs := [Fc.val f2]) (cap := []) hT rfl rfl (iD_ (y_ (c_ (c_ (c_ q_))) (y_ (c_ (c_ (c_ q_))) (y_ (c_ (c_ (c_ q_))) (y_ (c_ (c_ (c_ q_))) (y_ (c_ (c_ (c_ q_))) (y_ (c_ (c_ (c_ q_))) (c_ (c_ ad_))))))))) (fun v _ h => by exact ⟨h.2.2.2.2.2.1, h.2.2.2.2.1, ⟨h.2.2.2.2.2.2.2.1, h.2.2.2.2.2.2.1, h.2.2.2.2.2.1⟩, trivial⟩) rfl fun ⟨Hs3, hS3⟩ => ?_
       refine ap_ hn_ (e_ (b_ rfl (ap_ (aY_ (m_ (m_ (m_ (m_ (m_ (m_ (m_ i_))))))) (aY_ (m_ (m_ (m_ (m_ (m_ (m_ (m_ i_))))))) (cn_ (m_ (m_ (m_ (m_ (m_ (m_ ba_))))))))) (d_ (a_ (V_ rfl rfl rfl (am_ (by omega) (by omega))) rfl (a_ (g_ rfl) rfl (e_ (t_ rfl ?_))))))))
       exact ah_ ⟨(j + 1, Hs3), hlfv, by exact hS3⟩ (by dsimp only; omega) ⟨rfl, rfl, rfl, rfl, rfl, rfl, rfl, rfl, rfl, rfl, rfl, rfl, trivial⟩ (l_ i_ (l_ i_ (l_ i_ (y_ q_ (y_ q_ (y_ q_ (y_ q_ (y_ q_ (y_ q_ be_))))))))) (fun _ _ h => h)
     ·
      refine a_ (cc_ (dh_ dW_ hP_ rfl rfl (by omega) (by omega)) (show _ = zp_ b4 2 from by rw [hk]; rfl)) rfl (a_ (o_ 2 nN_ rfl rfl rfl) rfl (a_ (at_ bn_ rfl) rfl (a_ (g_ rfl) rfl (e_ (b_ rfl (S_ ?_))))))
      refine aV_ (ι := {y : Nat × Hp // y.1 ≤ 4 ∧ ((EN (Cl.facts c) (EngB.mk g pb ab ub ob ib rb sb lad lcap (ak_ (uniq [] p))) b2 b3 kb fb nb)).St (rls (dw_ (Cl.facts c)) (eN_ (Cl.facts c)) (aP_ (uniq [] p)) x f2 y.1 (q, fm)).1 (rls (dw_ (Cl.facts c)) (eN_ (Cl.facts c)) (aP_ (uniq [] p)) x f2 y.1 (q, fm)).2 y.2}) (fun y => [(0, .slice pad (List.length p) pcap), (3, zp_ b1 0), (8, zp_ b2 0), (9, zp_ b3 0), (12, zp_ b4 0), (14, zp_ b5 0), (62, .slice (Cl.fad c) (List.length (Cl.facts c)) (Cl.fcap c)), (63, .int .i64 (List.length (Cl.facts c) : Int)), (64, .int .i64 (k : Int)), (71, .slice (some ⟨r2, 0, none⟩) 4 4), (72, .int .i64 4), (73, .int .i64 (y.1.1 : Int))]) (fun y => ((b1, .cells (Cl.cells c).toArray 28 (0, 0)) :: ((b4, .cells #[.slice none 0 0, .slice (some ⟨r1, 0, none⟩) 6 6, .slice (some ⟨r2, 0, none⟩) 4 4, .slice (some ⟨r3, 0, none⟩) 2 2] 98 (0, 0)) :: ((b5, .cells (Fc.cells f2).toArray 41 (0, 0)) :: (Ha ++ (Hu ++ (Ho ++ (Hi ++ (Hr ++ (Hm ++ y.1.2)))))))))) (fun y => [bb_ (some ⟨r1, 0, none⟩) (List.flatMap fvC (rlV g 1)), bb_ (some ⟨r2, 0, none⟩) (List.flatMap fvC (rlV g 2)), bb_ (some ⟨r3, 0, none⟩) (List.flatMap fvC (rlV g 3)), bb_ aad (List.flatMap bf_ (atS p)), mlF Tryz.prog 171 Ky.val Pc.cells pb (aP_ (uniq [] p)) adr, ct_ g (.cells #[.map (some pb), .slice lad (List.length (ak_ (uniq [] p))) lcap, .map (some kb), .func (.func 67) #[] #[zp_ b2 0, zp_ b3 0], .map (some ab), .map (some ub), .map (some ob), .map (some ib), .map (some rb), .map (some sb), .map (some fb)] 94 (0, 0)), ct_ b3 (.cells #[.map (some nb)] 88 (0, 0)), ct_ b2 (.cells #[zp_ g 0] 85 (0, 0)), bb_ lad (List.flatMap bf_ (ak_ (uniq [] p))), bb_ pad (List.flatMap Pc.cells p), gG_, bb_ (Cl.aad c) (List.flatMap bf_ (Cl.atoms c)), bb_ (Cl.fad c) (List.flatMap Fc.cells (Cl.facts c))]) (fun y => 4 - y.1.1) ⟨((0 : Nat), Hs), by omega, by exact hS⟩ ⟨rfl, rfl, rfl, rfl, rfl, rfl, rfl, rfl, rfl, rfl, rfl, rfl, trivial⟩ (l_ (c_ i_) (l_ (c_ i_) (l_ i_ (y_ q_ (y_ q_ (y_ q_ (y_ q_ (y_ q_ (y_ q_ be_))))))))) (fun _ _ h => h) ?_
      rintro ⟨⟨j, Hs⟩, hj, hS2⟩
      dsimp only at hj hS2 ⊢
      refine f_ (d_ (z_ (aC_ rfl rfl) rfl fun r6 hr6 => ?_))
      refine e_ (b_ rfl (f_ ?_))
      cases r6
      ·
       replace hr6 := of_decide_eq_false hr6
       have ej : j = 4 := by omega
       rw [ej] at hS2
       refine r_ rfl (ay_ rfl (b_ rfl (d_ (a_ (V_ rfl rfl rfl (am_ (by omega) (by omega))) rfl (a_ (g_ rfl) rfl (e_ (t_ rfl ?_)))))))
       exact ah_ ⟨(k + 1, (rls (dw_ (Cl.facts c)) (eN_ (Cl.facts c)) (aP_ (uniq [] p)) x f2 4 (q, fm)).1, (rls (dw_ (Cl.facts c)) (eN_ (Cl.facts c)) (aP_ (uniq [] p)) x f2 4 (q, fm)).2, Hs), hlf2, (iK_ hvk hxo hform hN hf2 (by have e : nrl f2 = 4 := (by unfold nrl; simp [hk]); rw [e])), by exact (by exact hS2)⟩ (by dsimp only; omega) ⟨rfl, rfl, rfl, rfl, rfl, rfl, rfl, rfl, trivial⟩ (l_ i_ (l_ i_ (y_ (c_ q_) (y_ (c_ q_) (y_ (c_ q_) (y_ (c_ q_) (y_ (c_ q_) (y_ (c_ q_) ad_)))))))) (fun _ _ h => h)
      ·
       replace hr6 := of_decide_eq_true hr6
       have hlfv : j < List.length (rlV g 2) := by show j < 4; omega
       obtain ⟨fv, hfv⟩ : ∃ e0, (rlV g 2)[j]? = some e0 := ⟨_, List.getElem?_eq_getElem hlfv⟩
       have hmfv : fv ∈ (rlV g 2) := List.mem_of_getElem? hfv
       refine n_ rfl (B_ (b_ rfl (f_ (S_ (f_ (d_ (a_ (aj_ bn_ aR_ rfl rfl (fun v _ h => aO_ (n := 1) ec_ (by decide) (by exact h.2.1) hfv) (by omega) (by omega)) rfl (a_ (bA_ (ad := (some ⟨r2, 0, none⟩)) bj_ rfl (fun v _ h => by exact h.2.1) (an_ ec_ hfv 0 _ rfl)) rfl (a_ (h_ rfl) rfl ?_)))))))))
       refine e_ (b_ rfl (d_ (a_ (g_ rfl) rfl (a_ (K_ 2 af_ M_ rfl rfl rfl) rfl ?_))))
       obtain ⟨nr, rfl, hT⟩ := op_ (EngB.mk g pb ab ub ob ib rb sb lad lcap (ak_ (uniq [] p))) (EN (Cl.facts c) (EngB.mk g pb ab ub ob ib rb sb lad lcap (ak_ (uniq [] p))) b2 b3 kb fb nb) (EngA.mk adr (fun _ => (none, 0)) (fun _ => (none, 0)) (fun _ => (none, 0)) (fun _ => (none, 0)) (fun _ => (none, 0)) (fun _ => (none, 0))) (aP_ (uniq [] p)) x f2 (rls (dw_ (Cl.facts c)) (eN_ (Cl.facts c)) (aP_ (uniq [] p)) x f2 j (q, fm)).1 (rls (dw_ (Cl.facts c)) (eN_ (Cl.facts c)) (aP_ (uniq [] p)) x f2 j (q, fm)).2 Hs hS2 Ha Hu Ho Hi Hr Hm hI hpl hxl hyl (fun hk => (fs_ hform2 hk).2.2) (fun _ y hy => (hvk y (pm9.1 hy).1).num (.inr (pm9.1 hy).2.1)) hk j hfv
       refine aF_ (first := [zp_ g 0]) (vs := [Fc.val f2]) (cap := []) hT rfl rfl (iD_ (y_ (c_ (c_ (c_ q_))) (y_ (c_ (c_ (c_ q_))) (y_ (c_ (c_ (c_ q_))) (y_ (c_ (c_ (c_ q_))) (y_ (c_ (c_ (c_ q_))) (y_ (c_ (c_ (c_ q_))) (c_ (c_ ad_))))))))) (fun v _ h => by exact ⟨h.2.2.2.2.2.1, h.2.2.2.2.1, ⟨h.2.2.2.2.2.2.2.1, h.2.2.2.2.2.2.1, h.2.2.2.2.2.1⟩, trivial⟩) rfl fun ⟨Hs3, hS3⟩ => ?_
       refine ap_ hn_ (e_ (b_ rfl (ap_ (aY_ (m_ (m_ (m_ (m_ (m_ (m_ (m_ i_))))))) (aY_ (m_ (m_ (m_ (m_ (m_ (m_ (m_ i_))))))) (cn_ (m_ (m_ (m_ (m_ (m_ (m_ ba_))))))))) (d_ (a_ (V_ rfl rfl rfl (am_ (by omega) (by omega))) rfl (a_ (g_ rfl) rfl (e_ (t_ rfl ?_))))))))
       exact ah_ ⟨(j + 1, Hs3), hlfv, by exact hS3⟩ (by dsimp only; omega) ⟨rfl, rfl, rfl, rfl, rfl, rfl, rfl, rfl, rfl, rfl, rfl, rfl, trivial⟩ (l_ i_ (l_ i_ (l_ i_ (y_ q_ (y_ q_ (y_ q_ (y_ q_ (y_ q_ (y_ q_ be_))))))))) (fun _ _ h => h)
     ·
      refine a_ (cc_ (dh_ dW_ hP_ rfl rfl (by omega) (by omega)) (show _ = zp_ b4 3 from by rw [hk]; rfl)) rfl (a_ (o_ 2 nN_ rfl rfl rfl) rfl (a_ (at_ bn_ rfl) rfl (a_ (g_ rfl) rfl (e_ (b_ rfl (S_ ?_))))))
      refine aV_ (ι := {y : Nat × Hp // y.1 ≤ 2 ∧ ((EN (Cl.facts c) (EngB.mk g pb ab ub ob ib rb sb lad lcap (ak_ (uniq [] p))) b2 b3 kb fb nb)).St (rls (dw_ (Cl.facts c)) (eN_ (Cl.facts c)) (aP_ (uniq [] p)) x f2 y.1 (q, fm)).1 (rls (dw_ (Cl.facts c)) (eN_ (Cl.facts c)) (aP_ (uniq [] p)) x f2 y.1 (q, fm)).2 y.2}) (fun y => [(0, .slice pad (List.length p) pcap), (3, zp_ b1 0), (8, zp_ b2 0), (9, zp_ b3 0), (12, zp_ b4 0), (14, zp_ b5 0), (62, .slice (Cl.fad c) (List.length (Cl.facts c)) (Cl.fcap c)), (63, .int .i64 (List.length (Cl.facts c) : Int)), (64, .int .i64 (k : Int)), (71, .slice (some ⟨r3, 0, none⟩) 2 2), (72, .int .i64 2), (73, .int .i64 (y.1.1 : Int))]) (fun y => ((b1, .cells (Cl.cells c).toArray 28 (0, 0)) :: ((b4, .cells #[.slice none 0 0, .slice (some ⟨r1, 0, none⟩) 6 6, .slice (some ⟨r2, 0, none⟩) 4 4, .slice (some ⟨r3, 0, none⟩) 2 2] 98 (0, 0)) :: ((b5, .cells (Fc.cells f2).toArray 41 (0, 0)) :: (Ha ++ (Hu ++ (Ho ++ (Hi ++ (Hr ++ (Hm ++ y.1.2)))))))))) (fun y => [bb_ (some ⟨r1, 0, none⟩) (List.flatMap fvC (rlV g 1)), bb_ (some ⟨r2, 0, none⟩) (List.flatMap fvC (rlV g 2)), bb_ (some ⟨r3, 0, none⟩) (List.flatMap fvC (rlV g 3)), bb_ aad (List.flatMap bf_ (atS p)), mlF Tryz.prog 171 Ky.val Pc.cells pb (aP_ (uniq [] p)) adr, ct_ g (.cells #[.map (some pb), .slice lad (List.length (ak_ (uniq [] p))) lcap, .map (some kb), .func (.func 67) #[] #[zp_ b2 0, zp_ b3 0], .map (some ab), .map (some ub), .map (some ob), .map (some ib), .map (some rb), .map (some sb), .map (some fb)] 94 (0, 0)), ct_ b3 (.cells #[.map (some nb)] 88 (0, 0)), ct_ b2 (.cells #[zp_ g 0] 85 (0, 0)), bb_ lad (List.flatMap bf_ (ak_ (uniq [] p))), bb_ pad (List.flatMap Pc.cells p), gG_, bb_ (Cl.aad c) (List.flatMap bf_ (Cl.atoms c)), bb_ (Cl.fad c) (List.flatMap Fc.cells (Cl.facts c))]) (fun y => 2 - y.1.1) ⟨((0 : Nat), Hs), by omega, by exact hS⟩ ⟨rfl, rfl, rfl, rfl, rfl, rfl, rfl, rfl, rfl, rfl, rfl, rfl, trivial⟩ (l_ (c_ i_) (l_ (c_ i_) (l_ i_ (y_ q_ (y_ q_ (y_ q_ (y_ q_ (y_ q_ (y_ q_ be_))))))))) (fun _ _ h => h) ?_
      rintro ⟨⟨j, Hs⟩, hj, hS2⟩
      dsimp only at hj hS2 ⊢
      refine f_ (d_ (z_ (aC_ rfl rfl) rfl fun r7 hr7 => ?_))
      refine e_ (b_ rfl (f_ ?_))
      cases r7
      ·
       replace hr7 := of_decide_eq_false hr7
       have ej : j = 2 := by omega
       rw [ej] at hS2
       refine r_ rfl (ay_ rfl (b_ rfl (d_ (a_ (V_ rfl rfl rfl (am_ (by omega) (by omega))) rfl (a_ (g_ rfl) rfl (e_ (t_ rfl ?_)))))))
       exact ah_ ⟨(k + 1, (rls (dw_ (Cl.facts c)) (eN_ (Cl.facts c)) (aP_ (uniq [] p)) x f2 2 (q, fm)).1, (rls (dw_ (Cl.facts c)) (eN_ (Cl.facts c)) (aP_ (uniq [] p)) x f2 2 (q, fm)).2, Hs), hlf2, (iK_ hvk hxo hform hN hf2 (by have e : nrl f2 = 2 := (by unfold nrl; simp [hk]); rw [e])), by exact (by exact hS2)⟩ (by dsimp only; omega) ⟨rfl, rfl, rfl, rfl, rfl, rfl, rfl, rfl, trivial⟩ (l_ i_ (l_ i_ (y_ (c_ q_) (y_ (c_ q_) (y_ (c_ q_) (y_ (c_ q_) (y_ (c_ q_) (y_ (c_ q_) ad_)))))))) (fun _ _ h => h)
      ·
       replace hr7 := of_decide_eq_true hr7
       have hlfv : j < List.length (rlV g 3) := by show j < 2; omega
       obtain ⟨fv, hfv⟩ : ∃ e0, (rlV g 3)[j]? = some e0 := ⟨_, List.getElem?_eq_getElem hlfv⟩
       have hmfv : fv ∈ (rlV g 3) := List.mem_of_getElem? hfv
       refine n_ rfl (B_ (b_ rfl (f_ (S_ (f_ (d_ (a_ (aj_ bn_ aR_ rfl rfl (fun v _ h => aO_ (n := 1) ec_ (by decide) (by exact h.2.2.1) hfv) (by omega) (by omega)) rfl (a_ (bA_ (ad := (some ⟨r3, 0, none⟩)) bj_ rfl (fun v _ h => by exact h.2.2.1) (an_ ec_ hfv 0 _ rfl)) rfl (a_ (h_ rfl) rfl ?_)))))))))
       refine e_ (b_ rfl (d_ (a_ (g_ rfl) rfl (a_ (K_ 2 af_ M_ rfl rfl rfl) rfl ?_))))
       obtain ⟨nr, rfl, hT⟩ := oo_ (EngB.mk g pb ab ub ob ib rb sb lad lcap (ak_ (uniq [] p))) (EN (Cl.facts c) (EngB.mk g pb ab ub ob ib rb sb lad lcap (ak_ (uniq [] p))) b2 b3 kb fb nb) (EngA.mk adr (fun _ => (none, 0)) (fun _ => (none, 0)) (fun _ => (none, 0)) (fun _ => (none, 0)) (fun _ => (none, 0)) (fun _ => (none, 0))) (aP_ (uniq [] p)) x f2 (rls (dw_ (Cl.facts c)) (eN_ (Cl.facts c)) (aP_ (uniq [] p)) x f2 j (q, fm)).1 (rls (dw_ (Cl.facts c)) (eN_ (Cl.facts c)) (aP_ (uniq [] p)) x f2 j (q, fm)).2 Hs hS2 Ha Hu Ho Hi Hr Hm hI hpl hxl hyl (fun hk => (fs_ hform2 hk).2.2) (fun _ y hy => (hvk y (pm9.1 hy).1).num (.inr (pm9.1 hy).2.1)) hk j hfv
       refine aF_ (first := [zp_ g 0]) (vs := [Fc.val f2]) (cap := []) hT rfl rfl (iD_ (y_ (c_ (c_ (c_ q_))) (y_ (c_ (c_ (c_ q_))) (y_ (c_ (c_ (c_ q_))) (y_ (c_ (c_ (c_ q_))) (y_ (c_ (c_ (c_ q_))) (y_ (c_ (c_ (c_ q_))) (c_ (c_ ad_))))))))) (fun v _ h => by exact ⟨h.2.2.2.2.2.1, h.2.2.2.2.1, ⟨h.2.2.2.2.2.2.2.1, h.2.2.2.2.2.2.1, h.2.2.2.2.2.1⟩, trivial⟩) rfl fun ⟨Hs3, hS3⟩ => ?_
       refine ap_ hn_ (e_ (b_ rfl (ap_ (aY_ (m_ (m_ (m_ (m_ (m_ (m_ (m_ i_))))))) (aY_ (m_ (m_ (m_ (m_ (m_ (m_ (m_ i_))))))) (cn_ (m_ (m_ (m_ (m_ (m_ (m_ ba_))))))))) (d_ (a_ (V_ rfl rfl rfl (am_ (by omega) (by omega))) rfl (a_ (g_ rfl) rfl (e_ (t_ rfl ?_))))))))
       exact ah_ ⟨(j + 1, Hs3), hlfv, by exact hS3⟩ (by dsimp only; omega) ⟨rfl, rfl, rfl, rfl, rfl, rfl, rfl, rfl, rfl, rfl, rfl, rfl, trivial⟩ (l_ i_ (l_ i_ (l_ i_ (y_ q_ (y_ q_ (y_ q_ (y_ q_ (y_ q_ (y_ q_ be_))))))))) (fun _ _ h => h)
   ·
    replace hr3 := of_decide_eq_true hr3
    have hlf : i < List.length (Cl.facts c) := by omega
    obtain ⟨f, hf⟩ : ∃ e0, (Cl.facts c)[i]? = some e0 := ⟨_, List.getElem?_eq_getElem hlf⟩
    have hmf : f ∈ (Cl.facts c) := List.mem_of_getElem? hf
    refine n_ rfl (B_ (b_ rfl (f_ (S_ (f_ (d_ (a_ (aj_ az_ M_ rfl rfl (fun v _ h => aO_ (n := 6) Fc.cells_len (by decide) (by exact h.2.2.2.2.2.2.2.2.1) hf) (by omega) (by first | omega | (simp; done))) rfl (a_ (aG_ (ad := (Cl.fad c)) (us := Fc.cells f) af_ M_ rfl (fun v _ h => by exact h.2.2.2.2.2.2.2.2.1) (Fc.cells_len _) (an_ Fc.cells_len hf)) rfl (al_ aT_ rfl fun b6 => ?_)))))))))
    refine ae_ 0 M_ rfl rfl rfl rfl rfl rfl (e_ (b_ rfl (f_ ?_)))
    refine aD_ ((b6, .cells (Fc.cells f).toArray 41 (0, 0)) :: ((b1, .cells (Cl.cells c).toArray 28 (0, 0)) :: ((nb, .map #[] 0) :: (Ha ++ (Hu ++ (Ho ++ (Hi ++ (Hr ++ Hm)))))))) (by kernel_rfl) ?_
    refine ab_ 1 [0, 1, 2, 3, 4] (by kernel_rfl) (fun _ a b => ⟨Vw.sat.sub (a.perm (l_ i_ (l_ i_ (l_ i_ (y_ (c_ (c_ q_)) (y_ (c_ (c_ q_)) (y_ (c_ (c_ q_)) (y_ (c_ (c_ q_)) (y_ (c_ (c_ q_)) (c_ ad_)))))))))), b⟩) (j_ rfl (Z_ bw_ rfl (fun v _ h => by exact h.2.2.2.1) rfl) rfl (j_ rfl (ag_ rfl) rfl (j_ rfl (k_ F_ rfl rfl rfl bv_) rfl (j_ rfl (Z_ bD_ rfl (fun v _ h => by exact h.2.1) rfl) rfl (j_ rfl (K_ 0 af_ M_ rfl rfl rfl) rfl (aa_ (N_ 5 rfl (by kernel_rfl) (fQ_ (k := f) 3 fW_ (.inr rfl) aS_ rfl rfl rfl rfl hK fun ej1 cj1 hj1 => ?_))))))))
    refine e_ (t_ rfl (E_ (fun _ a b => ⟨Vw.sat.sub (a.perm (l_ i_ (l_ i_ (l_ i_ (y_ (c_ (c_ q_)) (y_ (c_ (c_ q_)) (y_ (c_ (c_ q_)) (y_ (c_ (c_ q_)) (y_ (c_ (c_ q_)) (c_ ad_)))))))))), b⟩) (Y_ (by kernel_rfl) (b_ rfl (f_ ?_)))))
    refine aD_ ((b6, .cells (Fc.cells f).toArray 41 (0, 0)) :: ((b1, .cells (Cl.cells c).toArray 28 (0, 0)) :: ((nb, .map #[] 0) :: (Ha ++ (Hu ++ (Ho ++ (Hi ++ (Hr ++ Hm)))))))) (by kernel_rfl) ?_
    refine ab_ 1 [0, 1, 2, 3, 4] (by kernel_rfl) (fun _ a b => ⟨Vw.sat.sub (a.perm (l_ i_ (l_ i_ (l_ i_ (y_ (c_ (c_ q_)) (y_ (c_ (c_ q_)) (y_ (c_ (c_ q_)) (y_ (c_ (c_ q_)) (y_ (c_ (c_ q_)) (c_ ad_)))))))))), b⟩) (j_ rfl (Z_ bw_ rfl (fun v _ h => by exact h.2.2.2.1) rfl) rfl (j_ rfl (ag_ rfl) rfl (j_ rfl (k_ F_ rfl rfl rfl bv_) rfl (j_ rfl (Z_ bD_ rfl (fun v _ h => by exact h.2.1) rfl) rfl (j_ rfl (K_ 0 af_ M_ rfl rfl rfl) rfl (aa_ (N_ 5 rfl (by kernel_rfl) (fQ_ (k := f) 4 fW_ (.inr rfl) aS_ rfl rfl rfl rfl hF fun ej2 cj2 hj2 => ?_))))))))
    refine e_ (t_ rfl (E_ (fun _ a b => ⟨Vw.sat.sub (a.perm (l_ i_ (l_ i_ (l_ i_ (y_ (c_ (c_ q_)) (y_ (c_ (c_ q_)) (y_ (c_ (c_ q_)) (y_ (c_ (c_ q_)) (y_ (c_ (c_ q_)) (c_ ad_)))))))))), b⟩) (Y_ (by kernel_rfl) (b_ rfl ?_))))
    have hK1 := (jD_ hnd hf) ▸ hj1
    have hF1 := (jD_ hnd hf) ▸ hj2
    refine d_ (a_ (Z_ bw_ rfl (fun v _ h => by exact h.2.2.2.1) rfl) rfl (a_ (K_ 0 af_ M_ rfl rfl rfl) rfl (Q_ (oF_ (EngB.mk g pb ab ub ob ib rb sb lad lcap (ak_ (uniq [] p))) (EN (List.take (i + 1) (Cl.facts c)) (EngB.mk g pb ab ub ob ib rb sb lad lcap (ak_ (uniq [] p))) b2 b3 kb fb nb) x f [] (List.take (i + 1) (Cl.facts c)) [(nb, .map #[] 0), (kb, .map ej1 cj1), (fb, .map ej2 cj2)] ⟨ej1, cj1, ej2, cj2, (List.take (i + 1) (Cl.facts c)), #[], 0, rfl, SetE.nil, hK1, hF1, fun _ => Iff.rfl, Born.nil 0⟩ Ha Hu Ho Hi Hr Hm hI hxl hyl) rfl (y_ (c_ (c_ (c_ (c_ (c_ q_))))) (y_ (c_ (c_ (c_ (c_ (c_ q_))))) (y_ (c_ (c_ (c_ (c_ (c_ q_))))) (y_ (c_ (c_ (c_ (c_ (c_ q_))))) (y_ (c_ (c_ (c_ (c_ (c_ q_))))) (y_ (c_ (c_ (c_ (c_ ad_)))) (l_ (c_ (c_ i_)) (l_ (c_ (c_ i_)) (c_ (c_ i_)))))))))) (fun v _ h => by exact ⟨h.2.1, trivial⟩) rfl fun ⟨⟨Ha1, Hu1, Ho1, Hi1, Hr1, Hm1⟩, hI1⟩ => ?_)))
    dsimp only
    refine ap_ rS_ (e_ (b_ rfl (ap_ (aY_ (m_ (m_ (m_ (m_ (m_ (m_ i_)))))) (aY_ (m_ (m_ (m_ (m_ (m_ (m_ i_)))))) (aY_ (m_ (m_ (m_ (m_ (m_ (m_ i_)))))) (aY_ (m_ (m_ (m_ (m_ (m_ (m_ i_)))))) (cn_ (m_ (m_ (m_ (m_ (m_ ba_)))))))))) (d_ (a_ (V_ rfl rfl rfl (am_ (by omega) (by omega))) rfl (a_ (g_ rfl) rfl (e_ (t_ rfl ?_))))))))
    exact ah_ ⟨(i + 1, (Ix.add x (decide (f ∈ (List.take (i + 1) (Cl.facts c)))) f), ej1, cj1, ej2, cj2, Ha1, Hu1, Ho1, Hi1, Hr1, Hm1), hlf, hK1, hF1, hI1, (gT_ hz _ f), sf_ hxo hf⟩ (by dsimp only; omega) ⟨rfl, rfl, rfl, rfl, rfl, rfl, rfl, trivial⟩ (l_ (c_ (c_ (c_ (c_ i_)))) (l_ i_ (l_ i_ (l_ i_ (y_ (c_ q_) (y_ (c_ q_) (y_ (c_ q_) (y_ (c_ q_) (y_ (c_ q_) ad_))))))))) (fun _ _ h => h)
  ·
   replace hr2 := bM_ hr2
   refine n_ rfl (f_ (d_ (a_ (g_ rfl) rfl (a_ (h_ rfl) rfl (a_ (h_ rfl) rfl (e_ (b_ rfl (D_ ?_))))))))
   exact kG_ Tryz.results22 ⟨(none, 0, [], (dR_ (Cl.atoms c) (Cl.facts c))), ⟨Nat.le_refl _, by simp, fun _ => rfl⟩, sa_ (by assumption) (by assumption)⟩ rfl rfl rfl X_ (fun v _ h => by exact ⟨.inl rfl, trivial⟩)
 ·
  replace hr1 := bM_ hr1
  refine n_ rfl (f_ (d_ (a_ (g_ rfl) rfl (a_ (h_ rfl) rfl (a_ (h_ rfl) rfl (e_ (b_ rfl (D_ ?_))))))))
  exact kG_ Tryz.results22 ⟨(none, 0, [], (bX_ p)), ⟨Nat.le_refl _, by simp, fun _ => rfl⟩, rZ_ (by assumption)⟩ rfl rfl rfl X_ (fun v _ h => by exact ⟨.inl rfl, trivial⟩)
end Go.Proofs.YtpdbbglpbngeiaaGreatDoor
namespace Go.Proofs.YtpdbbglpbngeiaaGreatDoor
open Go Go.Sx Go.Proofs
attribute [local irreducible] Code.wp wpList wpAnyH
open Go.Vs
theorem dE {p : Prop} {i : Decidable p} : (@decide p i = true) ↔ p := ⟨fun h => of_decide_eq_true h, fun h => decide_eq_true h⟩
theorem oP_ (p : List Pc) : [42] ∈ atS p := (hu_ p _).2 (.inr (.inl rfl))
theorem lU_ (p : List Pc) : [33] ∈ atS p := (hu_ p _).2 (.inr (.inr rfl))
theorem at_of {p : List Pc} {x : Pc} (hx : x ∈ p) {s : Str} (hs : s = x.a ∨ s = x.b ∨ s = x.c) (hn : s ≠ []) : s ∈ atS p := by
  refine (hu_ p s).2 (.inl ((gz_ p s).2 ?_))
  refine List.mem_flatMap.2 ⟨x, hx, List.mem_filter.2 ⟨?_, by simpa using hn⟩⟩
  rcases hs with rfl | rfl | rfl <;> simp
theorem sB_ {s : Str} (h : bh_ s = true) : s ≠ [] := fun e => by subst e; revert h; decide
theorem rB_ {p : Pc} (h : p.valid = true) (hk : p.kind = 1 ∨ p.kind = 2 ∨ p.kind = 3 ∨ p.kind = 4 ∨ p.kind = 9) : p.c ≠ [] := by
  unfold Pc.valid at h
  split at h
  · simp at h
  split at h
  · simp at h
  split at h
  · simp at h
  simp only [Bool.and_eq_true] at h
  obtain ⟨⟨⟨⟨_, hc⟩, _⟩, _⟩, _⟩ := h
  have key : ∀ {b : Bool}, ce_ b p.c bh_ = true → b = true → p.c ≠ [] := fun h1 h2 => by
    subst h2; simp [ce_] at h1; exact sB_ h1
  rcases hk with q | q | q | q | q <;> rw [q] at hc <;> exact key hc (by decide)
theorem fo1 {A : List Str} {a b : Str} : cy_ A (ax_ a b) = true ↔ a ∈ A ∧ b ∈ A := by
  unfold cy_ ax_ dQ_
  dsimp only
  rw [if_pos rfl, Bool.and_eq_true, Bool.and_eq_true, dE, dE, dE]
  simp [ax_]
theorem fo2 {A : List Str} {a r b : Str} : cy_ A (aN_ a r b) = true ↔ a ∈ A ∧ b ∈ A ∧ r ≠ [] := by
  unfold cy_ aN_
  dsimp only
  rw [if_neg (by decide), if_pos rfl, Bool.and_eq_true, Bool.and_eq_true, Bool.and_eq_true, dE, dE, dE, dE]
  simp [aN_]
theorem fo3 {A : List Str} {a r : Str} {lo hi : Int} : cy_ A (aJ_ a r lo hi) = true ↔ a ∈ A ∧ r ≠ [] ∧ -1099511627776 ≤ lo ∧ lo ≤ hi ∧ hi ≤ 1099511627776 := by
  unfold cy_ aJ_
  dsimp only
  rw [if_neg (by decide), if_neg (by decide), if_pos rfl, Bool.and_eq_true, Bool.and_eq_true, Bool.and_eq_true, Bool.and_eq_true, Bool.and_eq_true, dE, dE, dE, dE, dE, dE]
  simp [aJ_]
theorem one_ok {p : List Pc} {S : Fc → Prop} (hp : ∀ x ∈ p, x.valid = true) (hS : ∀ y, S y → cy_ (atS p) y = true) {y : Fc} (h : eb_ p (atS p) S y) : cy_ (atS p) y = true := by
  have hc : ∀ {x : Pc}, x ∈ p → (x.kind = 1 ∨ x.kind = 2 ∨ x.kind = 3 ∨ x.kind = 4 ∨ x.kind = 9) → x.c ∈ atS p := fun hx hk => at_of hx (.inr (.inr rfl)) (rB_ (hp _ hx) hk)
  have hv : ∀ {x : Pc}, x ∈ p → x.vok := fun hx => kN_ (hp _ hx)
  cases h with
  | r1 h => exact fo1.2 ⟨h, h⟩
  | r2 h => exact fo1.2 ⟨h, oP_ p⟩
  | r10 hx hk h => exact fo2.2 ⟨h, h, (hv hx).rok.1 (by simp [hk])⟩
  | r3 hx hk h => exact fo1.2 ⟨(fo1.1 (hS _ h)).1, hc hx (by simp [hk])⟩
  | r4 hx hk h h' => exact fo1.2 ⟨(fo1.1 (hS _ h)).1, hc hx (by simp [hk])⟩
  | r5 hx hk h => exact fo2.2 ⟨(fo1.1 (hS _ h)).1, hc hx (by simp [hk]), (hv hx).rok.1 (by simp [hk])⟩
  | r6 hx hk h => exact fo2.2 ⟨(fo2.1 (hS _ h)).1, (fo2.1 (hS _ h)).2.1, (hv hx).rok.2.2 hk⟩
  | r7 hx hk h h' => exact fo2.2 ⟨(fo2.1 (hS _ h)).1, (fo2.1 (hS _ h')).2.1, ((hv hx).rok.2.1 hk).2⟩
  | r8 hx hk h h' => exact fo1.2 ⟨(fo2.1 (hS _ h)).1, hc hx (by simp [hk])⟩
  | r9 h h' => exact fo1.2 ⟨(fo2.1 (hS _ h)).1, lU_ p⟩
  | r11 hx hk h => exact fo3.2 ⟨(fo1.1 (hS _ h)).1, (hv hx).rok.1 (by simp [hk]), (hv hx).num (.inl hk)⟩
  | r12 h h' hm hl =>
    have h1 := fo3.1 (hS _ h)
    have h2 := fo3.1 (hS _ h')
    exact fo3.2 ⟨h1.1, h1.2.1, by omega, hl, by omega⟩
  | r13 h h' hm hl => exact fo1.2 ⟨(fo3.1 (hS _ h)).1, lU_ p⟩
  | r14 hx hk h h1 h2 => exact fo1.2 ⟨(fo3.1 (hS _ h)).1, hc hx (by simp [hk])⟩
theorem der_ok {p : List Pc} (hp : ∀ x ∈ p, x.valid = true) {y : Fc} (h : Der p (atS p) y) : cy_ (atS p) y = true := h _ fun _ hy => one_ok hp (fun _ h => h) hy
theorem fF_ {p : List Pc} (h : bX_ p = 0) : ∀ x ∈ p, x.valid = true := fun x hx => List.all_eq_true.1 (nn_ h).2 x hx
theorem qd_ {p : List Pc} {m : Nat} {L : List Fc} (hp : bX_ p = 0) (h : ev_ p (atS p) m (some L)) (hm : m ≤ 65536) : dR_ (atS p) L = 0 :=
  (oL_ ⟨oc_ p, h.1, oP_ p, lU_ p, fun f hf => der_ok (fF_ hp) ((h.2.1 f).1 hf)⟩ (by have := h.2.2; omega)).symm
theorem lY_ {p : List Pc} {A : List Str} {m : Nat} {L : List Fc} (h : ev_ p A m (some L)) {y : Fc} (hy : eb_ p A (· ∈ L) y) : y ∈ L :=
  (h.2.1 y).2 (Der.step (hy.mono (fun x hx => ⟨x, hx, x.frm, rfl⟩) (fun _ h => h) (fun z hz => (h.2.1 z).1 hz) (fun _ _ h => h)))
theorem eP_.good {p : List Pc} {bu : Int} {c : Cl} (h : eP_ p bu c 0) : bX_ p = 0 ∧ 0 ≤ bu ∧ bu ≤ 1073741824 ∧ c.ok ∧ c.atoms = atS p ∧ ev_ p (atS p) (min bu 65536).toNat (some c.facts) := by
  unfold eP_ at h
  split at h
  · rename_i h1; exact absurd h.2.symm h1
  · rename_i h1
    split at h
    · exact absurd h.2 (by decide)
    · rename_i h2
      rcases h with h | h
      · exact ⟨by simpa using h1, by omega, by omega, h.2⟩
      · have := h.2.1; split at this <;> exact absurd this (by decide)
theorem eP_.bad {p : List Pc} {bu : Int} {c : Cl} {e : Int} (h : eP_ p bu c e) (he : e ≠ 0) : c = Cl.no := by
  unfold eP_ at h
  split at h
  · exact h.1
  · split at h
    · exact h.1
    · rcases h with h | h
      · exact absurd h.1 he
      · exact h.1
theorem eP_.ok {p : List Pc} {bu : Int} {c : Cl} {e : Int} (h : eP_ p bu c e) : c.ok := by
  by_cases he : e = 0
  · subst he; exact h.good.2.2.2.1
  · rw [h.bad he]; exact Cl.no_ok
theorem eP_.len {p : List Pc} {bu : Int} {c : Cl} {e : Int} (h : eP_ p bu c e) : c.atoms.length ≤ 3 * p.length + 2 ∧ c.facts.length ≤ 65536 := by
  by_cases he : e = 0
  · subst he
    obtain ⟨_, _, _, _, h1, h2⟩ := h.good
    refine ⟨by rw [h1]; exact jw_ p, ?_⟩
    have := h2.2.2
    omega
  · rw [h.bad he]; simp [Cl.no]
theorem lX_ {p : List Pc} {bu : Int} {c : Cl} {e : Int} {r : Option (List Fc)} (h : eP_ p bu c e) (hc : bX_ p = 0) (hb : 0 ≤ bu) (hb2 : bu ≤ 1073741824) (hr : ev_ p (atS p) (min bu 65536).toNat r) : (∀ L, r = some L → e = 0 ∧ c.facts = L ∧ c.atoms = atS p) ∧ (r = none → c = Cl.no ∧ e = if bu < 65536 then 3 else 2) := by
  unfold eP_ at h
  rw [if_neg (by simp [hc]), if_neg (by omega)] at h
  rcases h with ⟨h1, h2, h3, h4⟩ | ⟨h1, h2, h3⟩
  · have e := ev_.uniq h4 hr
    subst e
    exact ⟨fun L hL => ⟨h1, Option.some.inj hL, h3⟩, fun h => (by cases h)⟩
  · have e := ev_.uniq h3 hr
    subst e
    exact ⟨fun L hL => (by cases hL), fun _ => ⟨h1, h2⟩⟩
theorem gF_.good {p : List Pc} {at' : List Str} {fs l : List Fc} {e : Int} (h : gF_ p at' fs l e) (hp : bX_ p = 0) (hc : dR_ at' fs = 0) : e = 0 ∧ Srt l ∧ ∀ y, y ∈ l ↔ eb_ p (atS p) (· ∈ fs) y ∧ y ∉ fs := by
  unfold gF_ at h
  rw [if_neg (by simp [hp]), if_neg (by simp [hc])] at h
  exact h
theorem pH_ {p : List Pc} {m : Nat} {L l : List Fc} {e : Int} (hp : bX_ p = 0) (hm : m ≤ 65536) (hA : ev_ p (atS p) m (some L)) (h : gF_ p (atS p) L l e) : l = [] ∧ e = 0 := by
  obtain ⟨h1, _, h3⟩ := h.good hp (qd_ hp hA hm)
  refine ⟨List.eq_nil_iff_forall_not_mem.2 fun y hy => ?_, h1⟩
  have := (h3 y).1 hy
  exact this.2 (lY_ hA this.1)
end Go.Proofs.YtpdbbglpbngeiaaGreatDoor
namespace Go.Proofs.YtpdbbglpbngeiaaGreatDoor
open Go Go.Sx Go.Proofs
attribute [local irreducible] Code.wp wpList wpAnyH
open Go.Vs
theorem qh_ {N : Nat} {fr : Fr} {H : Hp} {Γ : List Fct} {P : Program} {ty t t' : TypeId} {x y : Operand} {m n : Int} (hx : Fr.ev fr x = some (.int .i64 m)) (hy : Fr.ev fr y = some (.int .i64 n)) : Yld P N fr H Γ (.binOp .add t x y t') ty (.int .i64 (IntKind.wrap .i64 (m + n))) :=
  fun a v h1 _ _ _ _ _ => by simp [execOp, h1.ev hx, h1.ev hy, eqGuard, binOp, Op.intArith]
def jW_ (x : Pc) : Int := (x.a.length : Int) + (x.b.length : Int) + (x.c.length : Int) + (x.r.length : Int) + (x.s.length : Int) + (x.t.length : Int)
def gH_ : List Pc → Int
  | [] => 0
  | x :: l => jW_ x + gH_ l
theorem kV_ : ∀ (l : List Pc) (x : Pc), gH_ (l ++ [x]) = gH_ l + jW_ x
  | [], x => by simp [gH_]
  | y :: l, x => by simp only [List.cons_append, gH_, kV_ l x]; omega
theorem pt_ {p : List Pc} {i : Nat} {x : Pc} (h : p[i]? = some x) : gH_ (p.take (i + 1)) = gH_ (p.take i) + jW_ x := by
  rw [List.take_add_one, h, Option.toList_some, kV_]
theorem mD_ : ∀ {l : List Pc}, (∀ x ∈ l, x.big) → 0 ≤ gH_ l ∧ gH_ l ≤ l.length * 844424930107392
  | [], _ => by simp [gH_]
  | x :: l, h => by
    have h1 := mD_ (l := l) fun y hy => h y (by simp [hy])
    obtain ⟨a, b, c, d, e, f⟩ := h x (by simp)
    simp only [gH_, jW_, List.length_cons]
    omega
theorem ow_ : ∀ {l : List Pc} {n : Int}, gH_ l ≤ n → n ≤ 17592186044414 → ∀ x ∈ l, x.sm
  | [], _, _, _, x, hx => by simp at hx
  | y :: l, n, h, hn, x, hx => by
    have h0 : 0 ≤ gH_ l := plen_pos l
    simp only [gH_, jW_] at h
    rcases List.mem_cons.1 hx with rfl | hx
    · exact ⟨by omega, by omega, by omega, by omega, by omega, by omega⟩
    · exact ow_ (l := l) (n := n) (by omega) hn x hx
where plen_pos : ∀ l : List Pc, 0 ≤ gH_ l
  | [] => by simp [gH_]
  | x :: l => by have := plen_pos l; simp only [gH_, jW_]; omega
theorem sk_ (p : List Pc) (pad : Option Addr) (pcap : Nat) (hp : p.length ≤ 1099511627744) (hbig : ∀ x ∈ p, x.big) : Tri Tryz.prog 16 #[.slice pad (List.length p) pcap] [] [bb_ pad (List.flatMap Pc.cells p)] (fun b : {b : Bool // b = true → p.length ≤ 40 ∧ ∀ x ∈ p, x.sm} => .bool b.1) (fun _ => []) (fun _ => []) := by
  refine R_ Tryz.func16 rfl rfl Tryz.ntmps16 rfl fun v0 => ?_
  refine f_ (d_ (a_ (h_ rfl) rfl (e_ (b_ rfl (f_ (d_ (a_ (h_ rfl) rfl (e_ (b_ rfl ?_)))))))))
  refine f_ (f_ (d_ (a_ (g_ rfl) rfl (a_ (at_ T_ rfl) rfl (a_ (g_ rfl) rfl (e_ (b_ rfl (S_ ?_))))))))
  refine aV_ (ι := {y : Nat × Int // y.1 ≤ List.length p ∧ (List.length p ≤ 40 → y.2 = gH_ (List.take y.1 p))}) (fun y => [(0, .slice pad (List.length p) pcap), (3, .int .i64 y.1.2), (6, .slice pad (List.length p) pcap), (7, .int .i64 (List.length p : Int)), (8, .int .i64 (y.1.1 : Int))]) (fun y => ([])) (fun y => [bb_ pad (List.flatMap Pc.cells p)]) (fun y => List.length p - y.1.1) ⟨((0 : Nat), 0), by simp, fun _ => rfl⟩ ⟨rfl, rfl, rfl, rfl, rfl, trivial⟩ X_ (fun _ _ h => h) ?_
  rintro ⟨⟨i, w⟩, hi, hw⟩
  dsimp only at hi hw ⊢
  refine f_ (d_ (z_ (aC_ rfl rfl) rfl fun r1 hr1 => ?_))
  refine e_ (b_ rfl (f_ ?_))
  cases r1
  · skip
    replace hr1 := of_decide_eq_false hr1
    refine r_ rfl (ay_ rfl (b_ rfl (f_ (d_ (a_ (g_ rfl) rfl (a_ (at_ T_ rfl) rfl (z_ (co_ rfl rfl) rfl fun r2 hr2 => ?_)))))))
    refine a_ (g_ rfl) rfl ?_
    cases r2
    · skip
      replace hr2 := of_decide_eq_false hr2
      refine w_ rfl rfl rfl rfl (w_ rfl rfl rfl rfl (a_ (H_ rfl rfl) rfl (a_ (h_ rfl) rfl (e_ (b_ rfl (D_ ?_))))))
      exact ar_ Tryz.results16 ⟨false, fun h => by cases h⟩ rfl X_ (fun _ _ _ => trivial)
    · skip
      replace hr2 := of_decide_eq_true hr2
      refine u_ rfl rfl (a_ (g_ rfl) rfl (u_ rfl rfl (z_ (co_ rfl rfl) rfl fun r3 hr3 => ?_)))
      refine a_ (P_ rfl rfl) rfl (a_ (h_ rfl) rfl (e_ (b_ rfl (D_ ?_))))
      exact ar_ Tryz.results16 ⟨r3, fun h => ⟨by omega, by rw [h] at hr3; have hle := of_decide_eq_true hr3; rw [hw (by omega), List.take_of_length_le (by omega)] at hle; exact ow_ hle (by decide)⟩⟩ rfl X_ (fun _ _ _ => trivial)
  · skip
    replace hr1 := of_decide_eq_true hr1
    have hlx1 : i < List.length p := by omega
    obtain ⟨x1, hx1⟩ : ∃ e0, p[i]? = some e0 := ⟨_, List.getElem?_eq_getElem hlx1⟩
    have hmx1 : x1 ∈ p := List.mem_of_getElem? hx1
    obtain ⟨q1, q2, q3, q4, q5, q6⟩ := hbig x1 hmx1
    refine n_ rfl (B_ (b_ rfl (f_ (S_ (f_ (d_ (a_ (aj_ T_ W_ rfl rfl (fun v _ h => aO_ (n := 10) Pc.cells_len (by decide) (by exact h.1) hx1) (by omega) (by first | omega | (simp; done))) rfl (a_ (aG_ (ad := pad) (us := Pc.cells x1) bs_ W_ rfl (fun v _ h => by exact h.1) (Pc.cells_len _) (an_ Pc.cells_len hx1)) rfl (al_ as_ rfl fun b1 => ?_)))))))))
    refine ae_ 0 W_ rfl rfl rfl rfl rfl rfl (e_ (b_ rfl (d_ (a_ (g_ rfl) rfl (a_ (k_ C_ rfl rfl rfl p_) rfl (a_ (o_ 0 v_ rfl rfl rfl) rfl (a_ (bY_ ai_ rfl) rfl (a_ (k_ C_ rfl rfl rfl p_) rfl (a_ (o_ 0 v_ rfl rfl rfl) rfl ?_)))))))))
    refine a_ (bY_ ai_ rfl) rfl (a_ (V_ rfl rfl rfl (am_ (by omega) (by omega))) rfl (a_ (k_ C_ rfl rfl rfl p_) rfl (a_ (o_ 0 v_ rfl rfl rfl) rfl (a_ (bY_ ai_ rfl) rfl (a_ (V_ rfl rfl rfl (am_ (by omega) (by omega))) rfl (a_ (k_ C_ rfl rfl rfl p_) rfl (a_ (o_ 0 v_ rfl rfl rfl) rfl (a_ (bY_ ai_ rfl) rfl (a_ (V_ rfl rfl rfl (am_ (by omega) (by omega))) rfl ?_)))))))))
    refine a_ (k_ C_ rfl rfl rfl p_) rfl (a_ (o_ 0 v_ rfl rfl rfl) rfl (a_ (bY_ ai_ rfl) rfl (a_ (V_ rfl rfl rfl (am_ (by omega) (by omega))) rfl (a_ (k_ C_ rfl rfl rfl p_) rfl (a_ (o_ 0 v_ rfl rfl rfl) rfl (a_ (bY_ ai_ rfl) rfl (a_ (V_ rfl rfl rfl (am_ (by omega) (by omega))) rfl (a_ (qh_ rfl rfl) rfl (a_ (h_ rfl) rfl ?_)))))))))
    refine e_ (b_ rfl (d_ (a_ (V_ rfl rfl rfl (am_ (by omega) (by omega))) rfl (a_ (g_ rfl) rfl (e_ (t_ rfl ?_))))))
    exact ah_ ⟨(i + 1, (IntKind.wrap .i64 (w + (((((((Pc.a x1).length : Int) + ((Pc.b x1).length : Int)) + ((Pc.c x1).length : Int)) + ((Pc.r x1).length : Int)) + ((Pc.s x1).length : Int)) + ((Pc.t x1).length : Int))))), hlx1, fun h40 => by rw [pt_ hx1, hw h40]; have hq := mD_ (l := List.take i p) (fun x hx => hbig x (List.mem_of_mem_take hx)); rw [List.length_take] at hq; unfold jW_; exact am_ (by omega) (by omega)⟩ (by dsimp only; omega) ⟨rfl, rfl, rfl, rfl, rfl, trivial⟩ X_ (fun _ _ h => h)
theorem lV_ : atS [] = [[33], [42]] := gm_ jq_ List.lt_trans (oc_ []) (by decide) fun x => by
  rw [hu_, gz_]
  simp [cX_, or_comm]
def P3 : List Pc := [⟨3, [65], [], [66], [114], [], [], 0, 0, 0⟩, ⟨4, [42], [], [67], [114], [], [], 0, 0, 0⟩]
def A3 : List Str := [[33], [42], [65], [66], [67]]
theorem od_ : atS P3 = A3 := gm_ jq_ List.lt_trans (oc_ P3) (by decide) fun x => by
  rw [hu_, gz_]
  simp only [cX_, kC_, P3, A3, List.flatMap_cons, List.flatMap_nil, List.mem_append, List.mem_cons, List.not_mem_nil, or_false]
  simp
  constructor
  · intro h
    simp only [or_assoc] at h
    rcases h with rfl | rfl | rfl | rfl | rfl | rfl <;> simp
  · rintro (rfl | rfl | rfl | rfl | rfl) <;> simp
theorem of_ : bX_ P3 = 0 := by decide +kernel
theorem oz_ : bX_ [] = 0 := by decide +kernel
def F0 : List Fc := iQ_ [] [[33], [42]] 3
def F3 : List Fc := iQ_ P3 A3 4
theorem F0_is (m : Nat) (hm : 3 ≤ m) : ev_ [] [[33], [42]] m (some F0) := nm_ (fun x hx => by simp at hx) 3 m (by decide +kernel) (Nat.le_trans (by decide +kernel) hm)
theorem F0_no : ev_ [] [[33], [42]] 2 none := pZ_ (fun x hx => by simp at hx) 3 2 (by decide +kernel)
theorem sN_ : ev_ P3 A3 65536 (some F3) := nm_ (iR_ of_) 4 65536 (by decide +kernel) (by decide +kernel)
theorem sane1 {c : Cl} {e : Int} (h : eP_ [] 3 c e) : e = 0 ∧ c.atoms = [[33], [42]] ∧ c.facts = F0 := by
  have := (lX_ h oz_ (by decide) (by decide) (r := some F0) (by rw [lV_]; exact F0_is 3 (by decide))).1 _ rfl
  rw [lV_] at this
  exact ⟨this.1, this.2.2, this.2.1⟩
theorem sane2 {c : Cl} {e : Int} (h : eP_ [] 2 c e) : e = 3 ∧ c = Cl.no := by
  have := (lX_ h oz_ (by decide) (by decide) (r := none) (by rw [lV_]; exact F0_no)).2 rfl
  exact ⟨this.2, this.1⟩
theorem sane3 {c : Cl} {e : Int} (h : eP_ P3 1073741824 c e) : e = 0 ∧ c.atoms = atS P3 ∧ c.facts = F3 := by
  have := (lX_ h of_ (by decide) (by decide) (r := some F3) (by rw [od_]; exact sN_)).1 _ rfl
  exact ⟨this.1, this.2.2, this.2.1⟩
theorem sane4 {at' : List Str} {fs l : List Fc} {e : Int} (ha : at' = atS P3) (hf : fs = F3) (h : gF_ P3 at' fs l e) : l = [] ∧ e = 0 := by
  subst ha; subst hf
  exact pH_ of_ (Nat.le_refl _) (by rw [od_]; exact sN_) h
theorem F0_len : F0.length = 3 := by decide +kernel
theorem F3_a : ri_ F3 (aN_ [65] [114] [66]) = true := by decide +kernel
theorem F3_b : ri_ F3 (ax_ [65] [67]) = true := by decide +kernel
theorem F3_c : ri_ F3 (ax_ [66] [67]) = false := by decide +kernel
theorem lZ_ : F3.length ≤ 1000 := by decide +kernel
end Go.Proofs.YtpdbbglpbngeiaaGreatDoor
namespace Go.Proofs.YtpdbbglpbngeiaaGreatDoor
open Go Go.Sx Go.Proofs
attribute [local irreducible] Code.wp wpList wpAnyH
open Go.Vs
set_option maxHeartbeats 1000000 in
theorem qt_ : Tri Tryz.prog 15 #[] [] [gG_] (fun _ : Unit => .bool true) (fun _ => []) (fun _ => []) := by
 refine R_ Tryz.func15 rfl rfl Tryz.ntmps15 rfl fun v0 => ?_
 refine f_ (d_ (a_ (h_ rfl) rfl (e_ (b_ rfl (f_ (d_ (Q_ (oS_ ([] : List Pc) none 0 3 (Pc.sm_all (by decide +kernel)) (by decide)) rfl X_ (fun v _ h => by exact ⟨.inl rfl, h.1, trivial⟩) rfl fun ⟨⟨c1, e1⟩, hA1⟩ => ?_)))))))
 dsimp only
 dsimp only at hA1
 obtain ⟨rfl, ha1, hf1⟩ := sane1 hA1
 refine a_ (g_ rfl) rfl (a_ (aq_ rfl rfl) rfl (a_ (aq_ rfl rfl) rfl (al_ hD_ rfl fun b1 => ?_)))
 refine ae_ 0 aH_ rfl rfl rfl rfl rfl rfl (a_ (h_ rfl) rfl (e_ (b_ rfl (f_ (d_ (Q_ (oS_ ([] : List Pc) none 0 2 (Pc.sm_all (by decide +kernel)) (by decide)) rfl X_ (fun v _ h => by exact ⟨.inl rfl, h.2.2.1, trivial⟩) rfl fun ⟨⟨c2, e2⟩, hA2⟩ => ?_))))))
 dsimp only
 dsimp only at hA2
 obtain ⟨rfl, hc2⟩ := sane2 hA2
 refine a_ (g_ rfl) rfl (a_ (aq_ rfl rfl) rfl (a_ (aq_ rfl rfl) rfl (al_ hD_ rfl fun b2 => ?_)))
 refine ae_ 0 aH_ rfl rfl rfl rfl rfl rfl (a_ (h_ rfl) rfl (e_ (b_ rfl (f_ (d_ (a_ (ao_ dA_ rfl rfl) rfl (a_ (ao_ dA_ rfl rfl) rfl (aW_ T_ W_ as_ rfl rfl rfl rfl rfl rfl fun b3 => ?_))))))))
 refine eM_ (List.flatMap Pc.cells [(Pc.mk 3 [65] [] [66] [114] [] [] 0 0 0), (Pc.mk 4 [42] [] [67] [114] [] [] 0 0 0)]) i_ rfl ?_
 refine a_ (h_ rfl) rfl (e_ (b_ rfl (f_ (d_ (a_ (g_ rfl) rfl (Q_ (oS_ [(Pc.mk 3 [65] [] [66] [114] [] [] 0 0 0), (Pc.mk 4 [42] [] [67] [114] [] [] 0 0 0)] (some ⟨b3, 0, none⟩) 2 1073741824 (Pc.sm_all (by decide +kernel)) (by decide)) rfl X_ (fun v _ h => by exact ⟨h.1, h.2.2.2.2.2.1, trivial⟩) rfl fun ⟨⟨c3, e3⟩, hA3⟩ => ?_))))))
 dsimp only
 dsimp only at hA3
 obtain ⟨rfl, ha3, hf3⟩ := sane3 hA3
 refine a_ (g_ rfl) rfl (a_ (aq_ rfl rfl) rfl (a_ (aq_ rfl rfl) rfl (al_ hD_ rfl fun b4 => ?_)))
 refine ae_ 0 aH_ rfl rfl rfl rfl rfl rfl (a_ (h_ rfl) rfl (e_ (b_ rfl (f_ (d_ (a_ (g_ rfl) rfl (a_ (K_ 0 bE_ aH_ rfl rfl rfl) rfl (Q_ (next_c [(Pc.mk 3 [65] [] [66] [114] [] [] 0 0 0), (Pc.mk 4 [42] [] [67] [114] [] [] 0 0 0)] (some ⟨b3, 0, none⟩) 2 c3 (Pc.sm_all (by decide +kernel)) (by decide) (by rw [ha3, od_]; decide) (by rw [hf3]; have := lZ_; omega)) rfl X_ (fun v _ h => by exact ⟨h.2.2.1, h.2.2.2.2.2.2.2.1, h.1, h.2.1, trivial⟩) rfl fun ⟨⟨oad, ocap, nl, ne⟩, hrk, hNx⟩ => ?_))))))))
 dsimp only
 dsimp only at hrk hNx
 obtain ⟨rfl, rfl⟩ := sane4 ha3 hf3 hNx
 refine a_ (g_ rfl) rfl (a_ (aq_ rfl rfl) rfl (a_ (aq_ rfl rfl) rfl (a_ (h_ rfl) rfl (a_ (h_ rfl) rfl (e_ (b_ rfl (f_ ?_)))))))
 have hlx1 : 0 < List.length (Cl.atoms c1) := by rw [ha1]; decide
 obtain ⟨x1, hx1⟩ : ∃ e0, (Cl.atoms c1)[0]? = some e0 := ⟨_, List.getElem?_eq_getElem hlx1⟩
 have hmx1 : x1 ∈ (Cl.atoms c1) := List.mem_of_getElem? hx1
 have hx1e : x1 = [33] := by rw [ha1] at hx1; simpa using hx1.symm
 refine aE_ (by kernel_rfl) ?_
 refine ab_ 46 [0, 1, 2, 3, 4, 5, 6, 7, 8] (by kernel_rfl) (fun _ a b => ⟨a, b⟩) (j_ rfl (g_ rfl) rfl (j_ rfl (cc_ (aA_ rfl rfl) (show _ = Value.bool true from congrArg Value.bool (by decide))) rfl (j_ rfl (g_ rfl) rfl (aB_ rfl rfl rfl (k_ bz_ rfl rfl rfl bq_) rfl (aB_ rfl rfl rfl (o_ 2 cd_ rfl rfl rfl) rfl (aB_ rfl rfl rfl (at_ L_ rfl) rfl ?_))))))
 refine dc_ rfl rfl rfl (aA_ rfl rfl) rfl fun r1 hr1 => ?_
 refine j_ rfl (P_ rfl rfl) rfl (j_ rfl (g_ rfl) rfl (aa_ ?_))
 cases r1
 ·
  replace hr1 := ne_of_beq_false hr1
  exact absurd (by rw [ha1]; rfl) hr1
 ·
  replace hr1 := eq_of_beq hr1
  refine ab_ 39 [9, 10, 11, 12, 13, 14, 15] (by kernel_rfl) (fun _ a b => ⟨a, b⟩) (aB_ rfl rfl rfl (k_ bz_ rfl rfl rfl bq_) rfl (aB_ rfl rfl rfl (o_ 2 cd_ rfl rfl rfl) rfl (aB_ rfl rfl rfl (aj_ L_ p_ rfl rfl (fun v _ h => aO_ (n := 1) aX_ (by decide) (by exact h.2.2.2.2.2.2.1) hx1) (by omega) (by first | omega | (simp; done))) rfl (aB_ rfl rfl rfl (bA_ (ad := (Cl.aad c1)) v_ rfl (fun v _ h => by exact h.2.2.2.2.2.2.1) (an_ aX_ hx1 0 _ rfl)) rfl ?_))))
  refine dc_ rfl rfl rfl (bu_ rfl rfl) rfl fun r2 hr2 => ?_
  refine j_ rfl (P_ rfl rfl) rfl (j_ rfl (g_ rfl) rfl (aa_ ?_))
  cases r2
  ·
   replace hr2 := ne_of_beq_false hr2
   exact absurd hx1e hr2
  ·
   replace hr2 := eq_of_beq hr2
   refine ab_ 33 [16, 17, 18, 19, 20, 21] (by kernel_rfl) (fun _ a b => ⟨a, b⟩) (aB_ rfl rfl rfl (k_ bz_ rfl rfl rfl dI_) rfl (aB_ rfl rfl rfl (o_ 2 cI_ rfl rfl rfl) rfl (aB_ rfl rfl rfl (at_ az_ rfl) rfl ?_)))
   refine dc_ rfl rfl rfl (aA_ rfl rfl) rfl fun r3 hr3 => ?_
   refine j_ rfl (P_ rfl rfl) rfl (j_ rfl (g_ rfl) rfl (aa_ ?_))
   cases r3
   ·
    replace hr3 := ne_of_beq_false hr3
    exact absurd (by rw [hf1, F0_len]; rfl) hr3
   ·
    replace hr3 := eq_of_beq hr3
    refine ab_ 24 [22, 23, 24, 25, 26, 27, 28, 29, 30] (by kernel_rfl) (fun _ a b => ⟨a, b⟩) (aB_ rfl rfl rfl (g_ rfl) rfl (aB_ rfl rfl rfl (cc_ (aA_ rfl rfl) (show _ = Value.bool true from congrArg Value.bool (by decide))) rfl (j_ rfl (P_ rfl rfl) rfl (j_ rfl (g_ rfl) rfl (aB_ rfl rfl rfl (g_ rfl) rfl (aB_ rfl rfl rfl (cc_ (aA_ rfl rfl) (show _ = Value.bool true from congrArg Value.bool (by decide))) rfl (j_ rfl (P_ rfl rfl) rfl (j_ rfl (g_ rfl) rfl (aB_ rfl rfl rfl (K_ 0 bE_ aH_ rfl rfl rfl) rfl ?_)))))))))
    refine aa_ (N_ 31 rfl (by kernel_rfl) (u_ rfl rfl (Q_ (lv_ [65] [114] [66]) rfl X_ (fun _ _ _ => by exact trivial) rfl fun _ => ?_)))
    refine e_ (t_ rfl (E_ (fun _ a b => ⟨a, b⟩) (N_ 32 rfl (by kernel_rfl) (u_ rfl rfl (au_ (jh_ c3 (aN_ [65] [114] [66]) (by rw [hf3]; have := lZ_; omega)) rfl X_ (fun v _ h => by exact ⟨h.2.2.1, trivial⟩) rfl fun r4 hr4 => ?_)))))
    refine e_ (t_ rfl (E_ (fun _ a b => ⟨a, b⟩) (ab_ 20 [33, 34] (by kernel_rfl) (fun _ a b => ⟨a, b⟩) (j_ rfl (P_ rfl rfl) rfl (j_ rfl (g_ rfl) rfl (aa_ ?_))))))
    cases r4
    ·
     rw [hf3, F3_a] at hr4; cases hr4
    ·
     refine ab_ 19 [35] (by kernel_rfl) (fun _ a b => ⟨a, b⟩) (aB_ rfl rfl rfl (K_ 0 bE_ aH_ rfl rfl rfl) rfl (aa_ (N_ 36 rfl (by kernel_rfl) (u_ rfl rfl (Q_ (ls_ [65] [67]) rfl X_ (fun _ _ _ => by exact trivial) rfl fun _ => ?_)))))
     refine e_ (t_ rfl (E_ (fun _ a b => ⟨a, b⟩) (N_ 37 rfl (by kernel_rfl) (u_ rfl rfl (au_ (jh_ c3 (ax_ [65] [67]) (by rw [hf3]; have := lZ_; omega)) rfl X_ (fun v _ h => by exact ⟨h.2.2.1, trivial⟩) rfl fun r5 hr5 => ?_)))))
     refine e_ (t_ rfl (E_ (fun _ a b => ⟨a, b⟩) (ab_ 15 [38, 39] (by kernel_rfl) (fun _ a b => ⟨a, b⟩) (j_ rfl (P_ rfl rfl) rfl (j_ rfl (g_ rfl) rfl (aa_ ?_))))))
     cases r5
     ·
      rw [hf3, F3_b] at hr5; cases hr5
     ·
      refine ab_ 14 [40] (by kernel_rfl) (fun _ a b => ⟨a, b⟩) (aB_ rfl rfl rfl (K_ 0 bE_ aH_ rfl rfl rfl) rfl (aa_ (N_ 41 rfl (by kernel_rfl) (u_ rfl rfl (Q_ (ls_ [66] [67]) rfl X_ (fun _ _ _ => by exact trivial) rfl fun _ => ?_)))))
      refine e_ (t_ rfl (E_ (fun _ a b => ⟨a, b⟩) (N_ 42 rfl (by kernel_rfl) (u_ rfl rfl (au_ (jh_ c3 (ax_ [66] [67]) (by rw [hf3]; have := lZ_; omega)) rfl X_ (fun v _ h => by exact ⟨h.2.2.1, trivial⟩) rfl fun r6 hr6 => ?_)))))
      refine e_ (t_ rfl (E_ (fun _ a b => ⟨a, b⟩) (ab_ 9 [43, 44, 45] (by kernel_rfl) (fun _ a b => ⟨a, b⟩) (aB_ rfl rfl rfl (bg_ rfl) rfl (j_ rfl (P_ rfl rfl) rfl (j_ rfl (g_ rfl) rfl (aa_ ?_)))))))
      cases r6
      ·
       refine ab_ 0 [46, 47, 48, 49, 50, 51, 52, 53, 54] (by kernel_rfl) (fun _ a b => ⟨a, b⟩) (aB_ rfl rfl rfl (g_ rfl) rfl (aB_ rfl rfl rfl (cc_ (aA_ rfl rfl) (show _ = Value.bool true from congrArg Value.bool (by decide))) rfl (j_ rfl (P_ rfl rfl) rfl (j_ rfl (g_ rfl) rfl (aB_ rfl rfl rfl (g_ rfl) rfl (aB_ rfl rfl rfl (at_ az_ rfl) rfl (aB_ rfl rfl rfl (cc_ (aA_ rfl rfl) (show _ = Value.bool true from congrArg Value.bool (by decide))) rfl (j_ rfl (P_ rfl rfl) rfl (j_ rfl (h_ rfl) rfl ?_)))))))))
       refine aa_ (Y_ (by kernel_rfl) (b_ rfl (D_ ?_)))
       exact ar_ Tryz.results15 () rfl X_ (fun _ _ _ => trivial)
      ·
       rw [hf3, F3_c] at hr6; cases hr6
end Go.Proofs.YtpdbbglpbngeiaaGreatDoor
namespace Go.Proofs.YtpdbbglpbngeiaaGreatDoor
open Go Go.Sx Go.Proofs
attribute [local irreducible] Code.wp wpList wpAnyH
open Go.Vs
theorem gc_ {fs : List Fc} {f : Fc} (h : f ∈ fs) : ri_ fs f = true := List.any_eq_true.2 ⟨f, h, by simp⟩
end Go.Proofs.YtpdbbglpbngeiaaGreatDoor
