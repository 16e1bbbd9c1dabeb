/-
  Part of the proof of the law ProofSound over this seat: the small logic, the data, the contracts of functions (no condition).
-/
import Derived.Test.YtkeanlfhghlgiaaGreatDoorQProofSound7
import Derived.Test.YtkeanlfhghlgiaaGreatDoorQProofSound6
import Derived.Shelf.SlSortCmp.NoneTotal
import Derived.Test.YtkeanlfhghlgiaaGreatDoorProg
import Derived.Test.YtkeanlfhghlgiaaGreatDoorQProofSound2
set_option linter.unusedVariables false
set_option linter.unusedSimpArgs false
set_option linter.unusedSectionVars false
set_option maxHeartbeats 1000000
namespace Go.Proofs.YtkeanlfhghlgiaaGreatDoor
open Go Go.Sx Go.Proofs
attribute [local irreducible] Code.wp wpList wpAnyH
open Go.Vs
theorem sb_ (B:EngB) (E:Emt Tryz.prog 24) (x:Ix) (f:Fc) (nw fm:List Fc) (Hs:Hp) (hS:E.St nw fm Hs) (Ha Hu Ho Hi Hr Hm:Hp) (hI:IxO 9 24 B x ⟨Ha,Hu,Ho,Hi,Hr,Hm⟩) (hxl:∀ k,(lat x.above k).length≤1000000000∧(lat x.under k).length≤1000000000) (hyl:∀ k,(lat x.frm k).length≤1000000000∧(lat x.into k).length≤1000000000∧(lat x.ranges k).length≤1000000000∧(lat x.firms k).length≤1000000000):Tri Tryz.prog 45 #[zp_ B.g 0,Fc.val f] (Ha++(Hu++(Ho++(Hi++(Hr++(Hm++Hs)))))) [gF B E] (fun _:{y:IxH // IxO 9 24 B (x.add (decide (f∈fm)) f) y}=>.tuple #[]) (fun y=>y.1.a++(y.1.u++(y.1.o++(y.1.i++(y.1.r++(y.1.s++Hs)))))) (fun _=>[]):=by
 refine u_ Tryz.func45 rfl rfl Tryz.ntmps45 rfl fun v0=>?_
 obtain⟨ha,hu,ho,hi,hr,hm⟩:=hI
 dsimp only at ha hu ho hi hr hm
 refine Zz 2 ?_
 refine aA_ rfl rfl fun b1=>Zi 11 (fun hr1=>?_) fun hr1=>?_
 ·refine Zi 6 (fun hr2=>?_) fun hr2=>?_
  ·refine Zi 6 (fun hr3=>?_) fun hr3=>?_
   ·refine Zz 6 ?_
    exact bM_ ek_ ⟨IxH.mk Ha Hu Ho Hi Hr Hm,by unfold Ix.add;rw[if_neg (by assumption),if_neg (by assumption),if_neg (by assumption)];exact⟨ha,hu,ho,hi,hr,hm⟩⟩ rfl zp zt
   refine Zz 10 ?_
   refine i_ (F_ eQ_ rfl rfl) rfl (L_ ck_ rfl fun b2=>A_ 0 cZ_ rfl rfl rfl rfl rfl rfl (Zz 3 ?_))
   refine af_ ((b2,.cells #[str f.a,str f.r] 128 (0,0))::((b1,.cells #[.int .i64 f.kind,str f.a,str f.b,str f.r,.int .i64 f.lo,.int .i64 f.hi] 24 (0,0))::[])) zk ?_
   refine q_ 6 [0,1,2,3,4,5] zk zs (Zz 7 ?_)
   refine l_ 6 rfl zk (Q_ ah_ z_ Z_ rfl rfl rfl rfl rfl rfl fun b3=>Zz 3 ?_)
   refine l_ 7 rfl zk ?_
   have hbb1:=(hyl (f.a,f.r)).2.2.1
   refine bA_ (k:=(f.a,f.r)) cC_ hr pO_ lM_ rfl rfl (c_ (c_ (c_ (e_ (e_ (e_ (e_ j_))))))) rfl fun es1 ce1 ie1 se1 ve1 Hk1 Hx1 ho1 hw1=>Zz 3 ?_
   refine q_ 2 [8,10] zk zs (Zz 3 ?_)
   refine l_ 9 rfl zk (ak_ (news:=List.flatMap Fc.cells [f]) lF_ hw1 rfl rfl zp rfl (bz_ zp) (fun u hu=>ax_ Fc.cells_one hu) (by simp only[maxLen];omega) (by omega) rfl fun sv1 Hr1 hr1=>?_)
   have hq1:=zsa hr1
   refine Zz 3 ?_
   refine l_ 11 rfl zk (aB_ (k:=(f.a,f.r)) (dd:=f) ho1 (by rw[be_];exact hq1) rfl rfl rfl (aV_ (f_ (e_ d_) (o_ j_ j_))) fun H2 hM2=>?_)
   refine Zz 5 ?_
   refine w_ (p_ (e_ d_) (p_ (e_ d_) (an_ (e_ d_)))) (Zz 2 ?_)
   refine q_ 0 [0,1,2,3,4,5] zk zs (Zz 5 ?_)
   refine cL_ rfl (lO_ (f:=f) hS eO_ aH_ eB_ rfl rfl zp) rfl fun r4 hr4=>Zz 3 ?_
   cases r4
   ·replace hr4:=zdf hr4
    refine Zz 3 ?_
    exact bM_ ek_ ⟨IxH.mk Ha Hu Ho Hi H2 Hm,by have e0:x.add (decide (f∈fm)) f={ x with ranges:=(x.ranges++[((f.a,f.r),f)]) }:=(by unfold Ix.add;rw[if_neg (by omega),if_neg (by omega),if_pos (by assumption),decide_eq_false (by assumption)];rfl);rw[e0];exact⟨ha,hu,ho,hi,hM2,hm⟩⟩ rfl (o_ (c_ (c_ (c_ (e_ j_)))) (o_ (c_ (c_ (c_ (e_ j_)))) (o_ (c_ (c_ (c_ (e_ j_)))) (o_ (c_ (c_ (c_ (e_ j_)))) (o_ (c_ (c_ (c_ j_))) (o_ (c_ (c_ (c_ j_))) (c_ (c_ K_)))))))) zt
   replace hr4:=zdt hr4
   refine cH_ rfl ?_
   refine af_ ((b3,.cells #[.int .i64 f.kind,str f.a,str f.b,str f.r,.int .i64 f.lo,.int .i64 f.hi] 24 (0,0))::((b2,.cells #[str f.a,str f.r] 128 (0,0))::((b1,.cells #[.int .i64 f.kind,str f.a,str f.b,str f.r,.int .i64 f.lo,.int .i64 f.hi] 24 (0,0))::[]))) zk ?_
   refine q_ 6 [0,1,2,3,4,5] zk zs (Zz 7 ?_)
   refine l_ 6 rfl zk (Q_ ah_ z_ Z_ rfl rfl rfl rfl rfl rfl fun b4=>Zz 3 ?_)
   refine l_ 7 rfl zk ?_
   have hbb3:=(hyl (f.a,f.r)).2.2.2
   refine bA_ (k:=(f.a,f.r)) cC_ hm pO_ lM_ rfl rfl zp rfl fun es3 ce3 ie3 se3 ve3 Hk3 Hx3 ho3 hw3=>Zz 2 ?_
   refine I_ zs (q_ 2 [8,10] zk zs (Zz 3 ?_))
   refine l_ 9 rfl zk (ak_ (news:=List.flatMap Fc.cells [f]) lF_ hw3 rfl rfl zp rfl (bz_ zp) (fun u hu=>ax_ Fc.cells_one hu) (by simp only[maxLen];omega) (by omega) rfl fun sv2 Hr2 hr2=>?_)
   have hq2:=zsa hr2
   refine Zz 2 ?_
   refine I_ zs (l_ 11 rfl zk (aB_ (k:=(f.a,f.r)) (dd:=f) ho3 (by rw[be_];exact hq2) rfl rfl rfl (aV_ (f_ (e_ d_) (o_ j_ j_))) fun H4 hM4=>?_))
   refine Zz 5 ?_
   exact bM_ ek_ ⟨IxH.mk Ha Hu Ho Hi H2 H4,by have e0:x.add (decide (f∈fm)) f={ x with ranges:=(x.ranges++[((f.a,f.r),f)]),firms:=(x.firms++[((f.a,f.r),f)]) }:=(by unfold Ix.add;rw[if_neg (by omega),if_neg (by omega),if_pos (by assumption),decide_eq_true (by assumption)];rfl);rw[e0];exact⟨ha,hu,ho,hi,hM2,hM4⟩⟩ rfl (o_ (e_ (c_ (c_ (c_ (c_ (e_ j_)))))) (o_ (e_ (c_ (c_ (c_ (c_ (e_ j_)))))) (o_ (e_ (c_ (c_ (c_ (c_ (e_ j_)))))) (o_ (e_ (c_ (c_ (c_ (c_ (e_ j_)))))) (o_ (e_ (c_ (c_ (c_ (c_ j_))))) (o_ j_ (c_ (c_ (c_ K_))))))))) zt
  refine Zz 4 ?_
  have hbb5:=(hxl f.b).2
  refine hS_ dI_ f.b hu (c_ (e_ j_)) fun es5 ce5 ve5 Hk5 Hx5 hw5 ho5=>?_
  refine w_ (p_ d_ (an_ (e_ (e_ d_)))) (ca_ ?_)
  refine af_ ((b1,.cells #[.int .i64 f.kind,str f.a,str f.b,str f.r,.int .i64 f.lo,.int .i64 f.hi] 24 (0,0))::[]) zk ?_
  refine q_ 4 [0,1,2,3,4,5,6,7,8,9,10,11,13,14] zk zs (Zz 15 ?_)
  refine bU_ 12 15 rfl rfl zk ?_ ?_
  ·refine i_ (cF_ (k:=f.b) dI_ ho5 cc_ bj_ rfl rfl 0 rfl) rfl (Zz 3 ?_)
   refine l_ 15 rfl zk (Q_ B_ J_ aW_ rfl rfl rfl rfl rfl rfl fun b5=>Zz 3 ?_)
   refine l_ 16 rfl zk (ak_ (news:=List.flatMap aS_ [f.a]) cX_ hw5 rfl rfl zp rfl (bq_ 0 rfl) (fun u hu=>ax_ cy_ hu) (by simp only[maxLen];omega) (by omega) rfl fun sv3 Hr3 hr3=>?_)
   have hq3:=zsa hr3
   refine Zz 3 ?_
   refine l_ 17 rfl zk (cS_ (k:=f.b) (dd:=f.a) dI_ ho5 (by rw[be_];exact hq3) (.inr rfl) cc_ rfl rfl rfl (aV_ (f_ (e_ (c_ d_)) (o_ j_ (c_ (c_ j_))))) fun H6 hM6=>?_)
   refine Zz 5 ?_
   refine w_ (p_ (e_ d_) (an_ (e_ d_))) (Zz 2 ?_)
   refine q_ 4 [0,1,2,3,4,5,6,7,8,9] zk zs (Zz 4 ?_)
   refine T_ rfl (F_ eQ_ rfl rfl) rfl (Zz 4 ?_)
   refine T_ rfl (F_ eQ_ rfl rfl) rfl (dX_ ?_)
   refine bU_ 10 11 rfl rfl zk ?_ ?_
   ·refine L_ ck_ rfl fun b6=>Zz 3 ?_
    refine l_ 11 rfl zk (L_ ck_ rfl fun b7=>Zz 3 ?_)
    refine l_ 12 rfl zk (A_ 1 cZ_ rfl rfl rfl rfl rfl rfl (Zz 3 ?_))
    refine l_ 13 rfl zk (A_ 0 cZ_ rfl rfl rfl rfl rfl rfl (Zz 6 ?_))
    refine af_ ((b7,.cells #[str f.b,str f.r] 128 (0,0))::((b6,.cells #[str f.a,str f.r] 128 (0,0))::((b5,.cells #[str f.a] 9 (0,0))::((b1,.cells #[.int .i64 f.kind,str f.a,str f.b,str f.r,.int .i64 f.lo,.int .i64 f.hi] 24 (0,0))::[])))) zk ?_
    refine q_ 6 [0,1,2,3,4,5,6] zk zs (Zz 8 ?_)
    refine l_ 7 rfl zk (Q_ B_ J_ aW_ rfl rfl rfl rfl rfl rfl fun b8=>Zz 3 ?_)
    refine l_ 8 rfl zk ?_
    have hbb7:=(hyl (f.a,f.r)).1
    refine bA_ (k:=(f.a,f.r)) cC_ ho bO_ bj_ rfl rfl (c_ (c_ (c_ (c_ (c_ (e_ (e_ j_))))))) rfl fun es7 ce7 ie7 se7 ve7 Hk7 Hx7 ho7 hw7=>Zz 2 ?_
    refine I_ (fun _ a b=>⟨Vw.sat.sub (a.perm (f_ (c_ (e_ (e_ (c_ d_)))) (f_ (c_ (e_ (e_ (c_ d_)))) (f_ (c_ (e_ (e_ (c_ d_)))) (c_ (e_ (e_ (c_ d_)))))))),b⟩) (q_ 2 [9,11] zk (fun _ a b=>⟨Vw.sat.sub (a.perm (f_ (c_ (e_ (e_ (c_ d_)))) (f_ (c_ (e_ (e_ (c_ d_)))) (f_ (c_ (e_ (e_ (c_ d_)))) (c_ (e_ (e_ (c_ d_)))))))),b⟩) (Zz 3 ?_))
    refine l_ 10 rfl zk (ak_ (news:=List.flatMap aS_ [f.b]) cX_ hw7 rfl rfl zp rfl (bz_ zp) (fun u hu=>ax_ cy_ hu) (by simp only[maxLen];omega) (by omega) rfl fun sv4 Hr4 hr4=>?_)
    have hq4:=zsa hr4
    refine Zz 2 ?_
    refine I_ (fun _ a b=>⟨Vw.sat.sub (a.perm (f_ (e_ (c_ (e_ (c_ d_)))) (f_ (e_ (c_ (e_ (c_ d_)))) (f_ (e_ (c_ (e_ (c_ d_)))) (e_ (c_ (e_ (c_ d_)))))))),b⟩) (l_ 12 rfl zk (aB_ (k:=(f.a,f.r)) (dd:=f.b) ho7 (by rw[be_];exact hq4) rfl rfl rfl (aV_ (f_ (e_ d_) (o_ j_ j_))) fun H8 hM8=>?_))
    refine Zz 5 ?_
    refine w_ (p_ (e_ d_) (p_ (e_ d_) (p_ (e_ d_) (p_ (e_ d_) (an_ (e_ d_)))))) ?_
    refine af_ ((b8,.cells #[str f.b] 9 (0,0))::((b7,.cells #[str f.b,str f.r] 128 (0,0))::((b6,.cells #[str f.a,str f.r] 128 (0,0))::((b5,.cells #[str f.a] 9 (0,0))::((b1,.cells #[.int .i64 f.kind,str f.a,str f.b,str f.r,.int .i64 f.lo,.int .i64 f.hi] 24 (0,0))::[]))))) zk ?_
    refine q_ 6 [0,1,2,3,4,5,6] zk zs (Zz 8 ?_)
    refine l_ 7 rfl zk (Q_ B_ J_ aW_ rfl rfl rfl rfl rfl rfl fun b9=>Zz 3 ?_)
    refine l_ 8 rfl zk ?_
    have hbb9:=(hyl (f.b,f.r)).2.1
    refine bA_ (k:=(f.b,f.r)) cC_ hi bO_ bj_ rfl rfl zp rfl fun es9 ce9 ie9 se9 ve9 Hk9 Hx9 ho9 hw9=>Zz 2 ?_
    refine I_ zs (q_ 2 [9,11] zk zs (Zz 3 ?_))
    refine l_ 10 rfl zk (ak_ (news:=List.flatMap aS_ [f.a]) cX_ hw9 rfl rfl zp rfl (bz_ zp) (fun u hu=>ax_ cy_ hu) (by simp only[maxLen];omega) (by omega) rfl fun sv5 Hr5 hr5=>?_)
    have hq5:=zsa hr5
    refine Zz 2 ?_
    refine I_ zs (l_ 12 rfl zk (aB_ (k:=(f.b,f.r)) (dd:=f.a) ho9 (by rw[be_];exact hq5) rfl rfl rfl (aV_ (f_ (e_ d_) (o_ j_ j_))) fun H10 hM10=>?_))
    refine Zz 2 ?_
    refine I_ zs (Zz 2 ?_)
    exact bM_ ek_ ⟨IxH.mk Ha H6 H8 H10 Hr Hm,by have e0:x.add (decide (f∈fm)) f={ x with under:=(x.under++[(f.b,f.a)]),frm:=(x.frm++[((f.a,f.r),f.b)]),into:=(x.into++[((f.b,f.r),f.a)]) }:=(by unfold Ix.add;rw[if_neg (by omega),if_pos (by assumption)]);rw[e0];exact⟨ha,hM6,hM8,hM10,hr,hm⟩⟩ rfl (o_ (e_ (c_ (c_ (c_ (c_ (c_ (c_ (e_ (e_ j_))))))))) (o_ (e_ (c_ (c_ (c_ (c_ (c_ (c_ (e_ j_)))))))) (o_ (e_ (c_ (c_ (c_ (c_ (c_ (c_ j_))))))) (o_ j_ (o_ (c_ (c_ (c_ (c_ (c_ (c_ j_)))))) (o_ (c_ (c_ (c_ (c_ (c_ (c_ j_)))))) (c_ (c_ (c_ (c_ (c_ K_))))))))))) zt
   refine L_ ck_ rfl fun b10=>Zz 3 ?_
   refine l_ 10 rfl zk (L_ ck_ rfl fun b11=>Zz 3 ?_)
   refine l_ 12 rfl zk (A_ 0 cZ_ rfl rfl rfl rfl rfl rfl (Zz 3 ?_))
   refine l_ 13 rfl zk (A_ 1 cZ_ rfl rfl rfl rfl rfl rfl (Zz 6 ?_))
   refine af_ ((b11,.cells #[str f.a,str f.r] 128 (0,0))::((b10,.cells #[str f.b,str f.r] 128 (0,0))::((b5,.cells #[str f.a] 9 (0,0))::((b1,.cells #[.int .i64 f.kind,str f.a,str f.b,str f.r,.int .i64 f.lo,.int .i64 f.hi] 24 (0,0))::[])))) zk ?_
   refine q_ 6 [0,1,2,3,4,5,6] zk zs (Zz 8 ?_)
   refine l_ 7 rfl zk (Q_ B_ J_ aW_ rfl rfl rfl rfl rfl rfl fun b12=>Zz 3 ?_)
   refine l_ 8 rfl zk ?_
   have hbb11:=(hyl (f.a,f.r)).1
   refine bA_ (k:=(f.a,f.r)) cC_ ho bO_ bj_ rfl rfl (c_ (c_ (c_ (c_ (c_ (e_ (e_ j_))))))) rfl fun es11 ce11 ie11 se11 ve11 Hk11 Hx11 ho11 hw11=>Zz 2 ?_
   refine I_ (fun _ a b=>⟨Vw.sat.sub (a.perm (f_ (c_ (e_ (e_ (c_ d_)))) (f_ (c_ (e_ (e_ (c_ d_)))) (f_ (c_ (e_ (e_ (c_ d_)))) (c_ (e_ (e_ (c_ d_)))))))),b⟩) (q_ 2 [9,11] zk (fun _ a b=>⟨Vw.sat.sub (a.perm (f_ (c_ (e_ (e_ (c_ d_)))) (f_ (c_ (e_ (e_ (c_ d_)))) (f_ (c_ (e_ (e_ (c_ d_)))) (c_ (e_ (e_ (c_ d_)))))))),b⟩) (Zz 3 ?_))
   refine l_ 10 rfl zk (ak_ (news:=List.flatMap aS_ [f.b]) cX_ hw11 rfl rfl zp rfl (bz_ zp) (fun u hu=>ax_ cy_ hu) (by simp only[maxLen];omega) (by omega) rfl fun sv6 Hr6 hr6=>?_)
   have hq6:=zsa hr6
   refine Zz 2 ?_
   refine I_ (fun _ a b=>⟨Vw.sat.sub (a.perm (f_ (e_ (c_ (e_ (c_ d_)))) (f_ (e_ (c_ (e_ (c_ d_)))) (f_ (e_ (c_ (e_ (c_ d_)))) (e_ (c_ (e_ (c_ d_)))))))),b⟩) (l_ 12 rfl zk (aB_ (k:=(f.a,f.r)) (dd:=f.b) ho11 (by rw[be_];exact hq6) rfl rfl rfl (aV_ (f_ (e_ d_) (o_ j_ j_))) fun H12 hM12=>?_))
   refine Zz 5 ?_
   refine w_ (p_ (e_ d_) (p_ (e_ d_) (p_ (e_ d_) (p_ (e_ d_) (an_ (e_ d_)))))) ?_
   refine af_ ((b12,.cells #[str f.b] 9 (0,0))::((b11,.cells #[str f.a,str f.r] 128 (0,0))::((b10,.cells #[str f.b,str f.r] 128 (0,0))::((b5,.cells #[str f.a] 9 (0,0))::((b1,.cells #[.int .i64 f.kind,str f.a,str f.b,str f.r,.int .i64 f.lo,.int .i64 f.hi] 24 (0,0))::[]))))) zk ?_
   refine q_ 6 [0,1,2,3,4,5,6] zk zs (Zz 8 ?_)
   refine l_ 7 rfl zk (Q_ B_ J_ aW_ rfl rfl rfl rfl rfl rfl fun b13=>Zz 3 ?_)
   refine l_ 8 rfl zk ?_
   have hbb13:=(hyl (f.b,f.r)).2.1
   refine bA_ (k:=(f.b,f.r)) cC_ hi bO_ bj_ rfl rfl zp rfl fun es13 ce13 ie13 se13 ve13 Hk13 Hx13 ho13 hw13=>Zz 2 ?_
   refine I_ zs (q_ 2 [9,11] zk zs (Zz 3 ?_))
   refine l_ 10 rfl zk (ak_ (news:=List.flatMap aS_ [f.a]) cX_ hw13 rfl rfl zp rfl (bz_ zp) (fun u hu=>ax_ cy_ hu) (by simp only[maxLen];omega) (by omega) rfl fun sv7 Hr7 hr7=>?_)
   have hq7:=zsa hr7
   refine Zz 2 ?_
   refine I_ zs (l_ 12 rfl zk (aB_ (k:=(f.b,f.r)) (dd:=f.a) ho13 (by rw[be_];exact hq7) rfl rfl rfl (aV_ (f_ (e_ d_) (o_ j_ j_))) fun H14 hM14=>?_))
   refine Zz 2 ?_
   refine I_ zs (Zz 2 ?_)
   exact bM_ ek_ ⟨IxH.mk Ha H6 H12 H14 Hr Hm,by have e0:x.add (decide (f∈fm)) f={ x with under:=(x.under++[(f.b,f.a)]),frm:=(x.frm++[((f.a,f.r),f.b)]),into:=(x.into++[((f.b,f.r),f.a)]) }:=(by unfold Ix.add;rw[if_neg (by omega),if_pos (by assumption)]);rw[e0];exact⟨ha,hM6,hM12,hM14,hr,hm⟩⟩ rfl (o_ (e_ (c_ (c_ (c_ (c_ (c_ (c_ (e_ (e_ j_))))))))) (o_ (e_ (c_ (c_ (c_ (c_ (c_ (c_ (e_ j_)))))))) (o_ (e_ (c_ (c_ (c_ (c_ (c_ (c_ j_))))))) (o_ j_ (o_ (c_ (c_ (c_ (c_ (c_ (c_ j_)))))) (o_ (c_ (c_ (c_ (c_ (c_ (c_ j_)))))) (c_ (c_ (c_ (c_ (c_ K_))))))))))) zt
  refine Q_ B_ J_ aW_ rfl rfl rfl rfl rfl rfl fun b14=>Zz 3 ?_
  refine l_ 12 rfl zk (i_ (cF_ (k:=f.b) dI_ ho5 cc_ bj_ rfl rfl 1 rfl) rfl (Zz 3 ?_))
  refine l_ 16 rfl zk (ak_ (news:=List.flatMap aS_ [f.a]) cX_ hw5 rfl rfl zp rfl (bq_ 0 rfl) (fun u hu=>ax_ cy_ hu) (by simp only[maxLen];omega) (by omega) rfl fun sv8 Hr8 hr8=>?_)
  have hq8:=zsa hr8
  refine Zz 3 ?_
  refine l_ 17 rfl zk (cS_ (k:=f.b) (dd:=f.a) dI_ ho5 (by rw[be_];exact hq8) (.inr rfl) cc_ rfl rfl rfl (aV_ (f_ (e_ (c_ d_)) (o_ j_ (c_ (c_ j_))))) fun H15 hM15=>?_)
  refine Zz 5 ?_
  refine w_ (p_ (e_ d_) (an_ (e_ d_))) (Zz 2 ?_)
  refine q_ 4 [0,1,2,3,4,5,6,7,8,9] zk zs (Zz 4 ?_)
  refine T_ rfl (F_ eQ_ rfl rfl) rfl (Zz 4 ?_)
  refine T_ rfl (F_ eQ_ rfl rfl) rfl (dX_ ?_)
  refine bU_ 10 11 rfl rfl zk ?_ ?_
  ·refine L_ ck_ rfl fun b15=>Zz 3 ?_
   refine l_ 11 rfl zk (L_ ck_ rfl fun b16=>Zz 3 ?_)
   refine l_ 12 rfl zk (A_ 1 cZ_ rfl rfl rfl rfl rfl rfl (Zz 3 ?_))
   refine l_ 13 rfl zk (A_ 0 cZ_ rfl rfl rfl rfl rfl rfl (Zz 6 ?_))
   refine af_ ((b16,.cells #[str f.b,str f.r] 128 (0,0))::((b15,.cells #[str f.a,str f.r] 128 (0,0))::((b14,.cells #[str f.a] 9 (0,0))::((b1,.cells #[.int .i64 f.kind,str f.a,str f.b,str f.r,.int .i64 f.lo,.int .i64 f.hi] 24 (0,0))::[])))) zk ?_
   refine q_ 6 [0,1,2,3,4,5,6] zk zs (Zz 8 ?_)
   refine l_ 7 rfl zk (Q_ B_ J_ aW_ rfl rfl rfl rfl rfl rfl fun b17=>Zz 3 ?_)
   refine l_ 8 rfl zk ?_
   have hbb16:=(hyl (f.a,f.r)).1
   refine bA_ (k:=(f.a,f.r)) cC_ ho bO_ bj_ rfl rfl (c_ (c_ (c_ (c_ (c_ (e_ (e_ j_))))))) rfl fun es16 ce16 ie16 se16 ve16 Hk16 Hx16 ho16 hw16=>Zz 2 ?_
   refine I_ (fun _ a b=>⟨Vw.sat.sub (a.perm (f_ (c_ (e_ (e_ (c_ d_)))) (f_ (c_ (e_ (e_ (c_ d_)))) (f_ (c_ (e_ (e_ (c_ d_)))) (c_ (e_ (e_ (c_ d_)))))))),b⟩) (q_ 2 [9,11] zk (fun _ a b=>⟨Vw.sat.sub (a.perm (f_ (c_ (e_ (e_ (c_ d_)))) (f_ (c_ (e_ (e_ (c_ d_)))) (f_ (c_ (e_ (e_ (c_ d_)))) (c_ (e_ (e_ (c_ d_)))))))),b⟩) (Zz 3 ?_))
   refine l_ 10 rfl zk (ak_ (news:=List.flatMap aS_ [f.b]) cX_ hw16 rfl rfl zp rfl (bz_ zp) (fun u hu=>ax_ cy_ hu) (by simp only[maxLen];omega) (by omega) rfl fun sv9 Hr9 hr9=>?_)
   have hq9:=zsa hr9
   refine Zz 2 ?_
   refine I_ (fun _ a b=>⟨Vw.sat.sub (a.perm (f_ (e_ (c_ (e_ (c_ d_)))) (f_ (e_ (c_ (e_ (c_ d_)))) (f_ (e_ (c_ (e_ (c_ d_)))) (e_ (c_ (e_ (c_ d_)))))))),b⟩) (l_ 12 rfl zk (aB_ (k:=(f.a,f.r)) (dd:=f.b) ho16 (by rw[be_];exact hq9) rfl rfl rfl (aV_ (f_ (e_ d_) (o_ j_ j_))) fun H17 hM17=>?_))
   refine Zz 5 ?_
   refine w_ (p_ (e_ d_) (p_ (e_ d_) (p_ (e_ d_) (p_ (e_ d_) (an_ (e_ d_)))))) ?_
   refine af_ ((b17,.cells #[str f.b] 9 (0,0))::((b16,.cells #[str f.b,str f.r] 128 (0,0))::((b15,.cells #[str f.a,str f.r] 128 (0,0))::((b14,.cells #[str f.a] 9 (0,0))::((b1,.cells #[.int .i64 f.kind,str f.a,str f.b,str f.r,.int .i64 f.lo,.int .i64 f.hi] 24 (0,0))::[]))))) zk ?_
   refine q_ 6 [0,1,2,3,4,5,6] zk zs (Zz 8 ?_)
   refine l_ 7 rfl zk (Q_ B_ J_ aW_ rfl rfl rfl rfl rfl rfl fun b18=>Zz 3 ?_)
   refine l_ 8 rfl zk ?_
   have hbb18:=(hyl (f.b,f.r)).2.1
   refine bA_ (k:=(f.b,f.r)) cC_ hi bO_ bj_ rfl rfl zp rfl fun es18 ce18 ie18 se18 ve18 Hk18 Hx18 ho18 hw18=>Zz 2 ?_
   refine I_ zs (q_ 2 [9,11] zk zs (Zz 3 ?_))
   refine l_ 10 rfl zk (ak_ (news:=List.flatMap aS_ [f.a]) cX_ hw18 rfl rfl zp rfl (bz_ zp) (fun u hu=>ax_ cy_ hu) (by simp only[maxLen];omega) (by omega) rfl fun sv10 Hr10 hr10=>?_)
   have hq10:=zsa hr10
   refine Zz 2 ?_
   refine I_ zs (l_ 12 rfl zk (aB_ (k:=(f.b,f.r)) (dd:=f.a) ho18 (by rw[be_];exact hq10) rfl rfl rfl (aV_ (f_ (e_ d_) (o_ j_ j_))) fun H19 hM19=>?_))
   refine Zz 2 ?_
   refine I_ zs (Zz 2 ?_)
   exact bM_ ek_ ⟨IxH.mk Ha H15 H17 H19 Hr Hm,by have e0:x.add (decide (f∈fm)) f={ x with under:=(x.under++[(f.b,f.a)]),frm:=(x.frm++[((f.a,f.r),f.b)]),into:=(x.into++[((f.b,f.r),f.a)]) }:=(by unfold Ix.add;rw[if_neg (by omega),if_pos (by assumption)]);rw[e0];exact⟨ha,hM15,hM17,hM19,hr,hm⟩⟩ rfl (o_ (e_ (c_ (c_ (c_ (c_ (c_ (c_ (e_ (e_ j_))))))))) (o_ (e_ (c_ (c_ (c_ (c_ (c_ (c_ (e_ j_)))))))) (o_ (e_ (c_ (c_ (c_ (c_ (c_ (c_ j_))))))) (o_ j_ (o_ (c_ (c_ (c_ (c_ (c_ (c_ j_)))))) (o_ (c_ (c_ (c_ (c_ (c_ (c_ j_)))))) (c_ (c_ (c_ (c_ (c_ K_))))))))))) zt
  refine L_ ck_ rfl fun b19=>Zz 3 ?_
  refine l_ 10 rfl zk (L_ ck_ rfl fun b20=>Zz 3 ?_)
  refine l_ 12 rfl zk (A_ 0 cZ_ rfl rfl rfl rfl rfl rfl (Zz 3 ?_))
  refine l_ 13 rfl zk (A_ 1 cZ_ rfl rfl rfl rfl rfl rfl (Zz 6 ?_))
  refine af_ ((b20,.cells #[str f.a,str f.r] 128 (0,0))::((b19,.cells #[str f.b,str f.r] 128 (0,0))::((b14,.cells #[str f.a] 9 (0,0))::((b1,.cells #[.int .i64 f.kind,str f.a,str f.b,str f.r,.int .i64 f.lo,.int .i64 f.hi] 24 (0,0))::[])))) zk ?_
  refine q_ 6 [0,1,2,3,4,5,6] zk zs (Zz 8 ?_)
  refine l_ 7 rfl zk (Q_ B_ J_ aW_ rfl rfl rfl rfl rfl rfl fun b21=>Zz 3 ?_)
  refine l_ 8 rfl zk ?_
  have hbb20:=(hyl (f.a,f.r)).1
  refine bA_ (k:=(f.a,f.r)) cC_ ho bO_ bj_ rfl rfl (c_ (c_ (c_ (c_ (c_ (e_ (e_ j_))))))) rfl fun es20 ce20 ie20 se20 ve20 Hk20 Hx20 ho20 hw20=>Zz 2 ?_
  refine I_ (fun _ a b=>⟨Vw.sat.sub (a.perm (f_ (c_ (e_ (e_ (c_ d_)))) (f_ (c_ (e_ (e_ (c_ d_)))) (f_ (c_ (e_ (e_ (c_ d_)))) (c_ (e_ (e_ (c_ d_)))))))),b⟩) (q_ 2 [9,11] zk (fun _ a b=>⟨Vw.sat.sub (a.perm (f_ (c_ (e_ (e_ (c_ d_)))) (f_ (c_ (e_ (e_ (c_ d_)))) (f_ (c_ (e_ (e_ (c_ d_)))) (c_ (e_ (e_ (c_ d_)))))))),b⟩) (Zz 3 ?_))
  refine l_ 10 rfl zk (ak_ (news:=List.flatMap aS_ [f.b]) cX_ hw20 rfl rfl zp rfl (bz_ zp) (fun u hu=>ax_ cy_ hu) (by simp only[maxLen];omega) (by omega) rfl fun sv11 Hr11 hr11=>?_)
  have hq11:=zsa hr11
  refine Zz 2 ?_
  refine I_ (fun _ a b=>⟨Vw.sat.sub (a.perm (f_ (e_ (c_ (e_ (c_ d_)))) (f_ (e_ (c_ (e_ (c_ d_)))) (f_ (e_ (c_ (e_ (c_ d_)))) (e_ (c_ (e_ (c_ d_)))))))),b⟩) (l_ 12 rfl zk (aB_ (k:=(f.a,f.r)) (dd:=f.b) ho20 (by rw[be_];exact hq11) rfl rfl rfl (aV_ (f_ (e_ d_) (o_ j_ j_))) fun H21 hM21=>?_))
  refine Zz 5 ?_
  refine w_ (p_ (e_ d_) (p_ (e_ d_) (p_ (e_ d_) (p_ (e_ d_) (an_ (e_ d_)))))) ?_
  refine af_ ((b21,.cells #[str f.b] 9 (0,0))::((b20,.cells #[str f.a,str f.r] 128 (0,0))::((b19,.cells #[str f.b,str f.r] 128 (0,0))::((b14,.cells #[str f.a] 9 (0,0))::((b1,.cells #[.int .i64 f.kind,str f.a,str f.b,str f.r,.int .i64 f.lo,.int .i64 f.hi] 24 (0,0))::[]))))) zk ?_
  refine q_ 6 [0,1,2,3,4,5,6] zk zs (Zz 8 ?_)
  refine l_ 7 rfl zk (Q_ B_ J_ aW_ rfl rfl rfl rfl rfl rfl fun b22=>Zz 3 ?_)
  refine l_ 8 rfl zk ?_
  have hbb22:=(hyl (f.b,f.r)).2.1
  refine bA_ (k:=(f.b,f.r)) cC_ hi bO_ bj_ rfl rfl zp rfl fun es22 ce22 ie22 se22 ve22 Hk22 Hx22 ho22 hw22=>Zz 2 ?_
  refine I_ zs (q_ 2 [9,11] zk zs (Zz 3 ?_))
  refine l_ 10 rfl zk (ak_ (news:=List.flatMap aS_ [f.a]) cX_ hw22 rfl rfl zp rfl (bz_ zp) (fun u hu=>ax_ cy_ hu) (by simp only[maxLen];omega) (by omega) rfl fun sv12 Hr12 hr12=>?_)
  have hq12:=zsa hr12
  refine Zz 2 ?_
  refine I_ zs (l_ 12 rfl zk (aB_ (k:=(f.b,f.r)) (dd:=f.a) ho22 (by rw[be_];exact hq12) rfl rfl rfl (aV_ (f_ (e_ d_) (o_ j_ j_))) fun H23 hM23=>?_))
  refine Zz 2 ?_
  refine I_ zs (Zz 2 ?_)
  exact bM_ ek_ ⟨IxH.mk Ha H15 H21 H23 Hr Hm,by have e0:x.add (decide (f∈fm)) f={ x with under:=(x.under++[(f.b,f.a)]),frm:=(x.frm++[((f.a,f.r),f.b)]),into:=(x.into++[((f.b,f.r),f.a)]) }:=(by unfold Ix.add;rw[if_neg (by omega),if_pos (by assumption)]);rw[e0];exact⟨ha,hM15,hM21,hM23,hr,hm⟩⟩ rfl (o_ (e_ (c_ (c_ (c_ (c_ (c_ (c_ (e_ (e_ j_))))))))) (o_ (e_ (c_ (c_ (c_ (c_ (c_ (c_ (e_ j_)))))))) (o_ (e_ (c_ (c_ (c_ (c_ (c_ (c_ j_))))))) (o_ j_ (o_ (c_ (c_ (c_ (c_ (c_ (c_ j_)))))) (o_ (c_ (c_ (c_ (c_ (c_ (c_ j_)))))) (c_ (c_ (c_ (c_ (c_ K_))))))))))) zt
 refine Zz 4 ?_
 have hbb24:=(hxl f.a).1
 refine hS_ dI_ f.a ha (c_ j_) fun es24 ce24 ve24 Hk24 Hx24 hw24 ho24=>?_
 refine w_ (p_ d_ (an_ (e_ (e_ d_)))) ?_
 refine af_ ((b1,.cells #[.int .i64 f.kind,str f.a,str f.b,str f.r,.int .i64 f.lo,.int .i64 f.hi] 24 (0,0))::[]) zk ?_
 refine q_ 4 [0,1,2,3,4,5,6,7,8,9,10,11,13,14] zk zs (Zz 15 ?_)
 refine bU_ 12 15 rfl rfl zk ?_ ?_
 ·refine i_ (cF_ (k:=f.a) dI_ ho24 cc_ bj_ rfl rfl 0 rfl) rfl (Zz 3 ?_)
  refine l_ 15 rfl zk (Q_ B_ J_ aW_ rfl rfl rfl rfl rfl rfl fun b23=>Zz 3 ?_)
  refine l_ 16 rfl zk (ak_ (news:=List.flatMap aS_ [f.b]) cX_ hw24 rfl rfl zp rfl (bq_ 0 rfl) (fun u hu=>ax_ cy_ hu) (by simp only[maxLen];omega) (by omega) rfl fun sv13 Hr13 hr13=>?_)
  have hq13:=zsa hr13
  refine Zz 3 ?_
  refine l_ 17 rfl zk (cS_ (k:=f.a) (dd:=f.b) dI_ ho24 (by rw[be_];exact hq13) (.inr rfl) cc_ rfl rfl rfl (aV_ (f_ (e_ (c_ d_)) (o_ j_ (c_ (c_ j_))))) fun H25 hM25=>?_)
  refine Zz 5 ?_
  exact bM_ ek_ ⟨IxH.mk H25 Hu Ho Hi Hr Hm,by have e0:x.add (decide (f∈fm)) f={ x with above:=(x.above++[(f.a,f.b)]) }:=(by unfold Ix.add;rw[if_pos (by assumption)]);rw[e0];exact⟨hM25,hu,ho,hi,hr,hm⟩⟩ rfl (o_ j_ (o_ (c_ (c_ j_)) (o_ (c_ (c_ j_)) (o_ (c_ (c_ j_)) (o_ (c_ (c_ j_)) (o_ (c_ (c_ j_)) (c_ K_))))))) zt
 refine Q_ B_ J_ aW_ rfl rfl rfl rfl rfl rfl fun b24=>Zz 3 ?_
 refine l_ 12 rfl zk (i_ (cF_ (k:=f.a) dI_ ho24 cc_ bj_ rfl rfl 1 rfl) rfl (Zz 3 ?_))
 refine l_ 16 rfl zk (ak_ (news:=List.flatMap aS_ [f.b]) cX_ hw24 rfl rfl zp rfl (bq_ 0 rfl) (fun u hu=>ax_ cy_ hu) (by simp only[maxLen];omega) (by omega) rfl fun sv14 Hr14 hr14=>?_)
 have hq14:=zsa hr14
 refine Zz 3 ?_
 refine l_ 17 rfl zk (cS_ (k:=f.a) (dd:=f.b) dI_ ho24 (by rw[be_];exact hq14) (.inr rfl) cc_ rfl rfl rfl (aV_ (f_ (e_ (c_ d_)) (o_ j_ (c_ (c_ j_))))) fun H26 hM26=>?_)
 refine Zz 5 ?_
 exact bM_ ek_ ⟨IxH.mk H26 Hu Ho Hi Hr Hm,by have e0:x.add (decide (f∈fm)) f={ x with above:=(x.above++[(f.a,f.b)]) }:=(by unfold Ix.add;rw[if_pos (by assumption)]);rw[e0];exact⟨hM26,hu,ho,hi,hr,hm⟩⟩ rfl (o_ j_ (o_ (c_ (c_ j_)) (o_ (c_ (c_ j_)) (o_ (c_ (c_ j_)) (o_ (c_ (c_ j_)) (o_ (c_ (c_ j_)) (c_ K_))))))) zt
end Go.Proofs.YtkeanlfhghlgiaaGreatDoor
namespace Go.Proofs.YtkeanlfhghlgiaaGreatDoor
open Go Go.Sx Go.Proofs
attribute [local irreducible] Code.wp wpList wpAnyH
open Go.Vs
theorem gD_ (x:Pc) (ro at':Str) (pm:List (Ky×Pc)) (bx bg:Nat) (g pb kb ab ub ob ib rb sb fb:Nat) (ev:Value) (lv:Value) (Hm:Hp) (hm:aP_ Ky.val Pc.cells 52 10 pm pb Hm) (hpl:pm.length≤1000000000):Tri Tryz.prog 123 #[str ro,str at',zp_ bx 0,zp_ bg 0] ((bx,.cells #[.int .i64 x.kind,str x.a,str x.b,str x.c,str x.r,str x.s,str x.t,.int .i64 x.lo,.int .i64 x.hi,.int .i64 x.frm] 52 (0,0))::(bg,.cells #[zp_ g 0] 71 (0,0))::(g,.cells #[.map (some pb),lv,.map (some kb),ev,.map (some ab),.map (some ub),.map (some ob),.map (some ib),.map (some rb),.map (some sb),.map (some fb)] 80 (0,0))::Hm) [] (fun _:{H:Hp // aP_ Ky.val Pc.cells 52 10 (pm++[((Ky.mk x.kind ro at'),x)]) pb H}=>.tuple #[]) (fun y=>(bx,.cells #[.int .i64 x.kind,str x.a,str x.b,str x.c,str x.r,str x.s,str x.t,.int .i64 x.lo,.int .i64 x.hi,.int .i64 x.frm] 52 (0,0))::(bg,.cells #[zp_ g 0] 71 (0,0))::(g,.cells #[.map (some pb),lv,.map (some kb),ev,.map (some ab),.map (some ub),.map (some ob),.map (some ib),.map (some rb),.map (some sb),.map (some fb)] 80 (0,0))::y.1) (fun _=>[]):=by
  refine u_ Tryz.func123 rfl rfl Tryz.ntmps123 rfl fun v0=>?_
  refine Zz 6 ?_
  refine i_ (F_ eh_ rfl rfl) rfl (L_ Tryz.zeroValue145 rfl fun b1=>A_ 0 Tryz.sizeOf145 rfl rfl rfl rfl rfl rfl (Zz 2 ?_))
  refine af_ ((b1,.cells #[.int .i64 x.kind,str ro,str at'] 145 (0,0))::((bx,.cells #[.int .i64 x.kind,str x.a,str x.b,str x.c,str x.r,str x.s,str x.t,.int .i64 x.lo,.int .i64 x.hi,.int .i64 x.frm] 52 (0,0))::((bg,.cells #[zp_ g 0] 71 (0,0))::((g,.cells #[.map (some pb),lv,.map (some kb),ev,.map (some ab),.map (some ub),.map (some ob),.map (some ib),.map (some rb),.map (some sb),.map (some fb)] 80 (0,0))::[])))) zk ?_
  refine q_ 6 [0,1,2,3,4,5] zk zs (Zz 7 ?_)
  refine l_ 6 rfl zk (Q_ W_ R_ aL_ rfl rfl rfl rfl rfl rfl fun b2=>Zz 2 ?_)
  refine I_ zs (l_ 7 rfl zk ?_)
  have hbb1:=Nat.le_trans (aZ_ pm (Ky.mk x.kind ro at')) hpl
  refine bA_ (k:=(Ky.mk x.kind ro at')) gt_ hm bP_ cw_ rfl rfl (c_ (c_ (c_ (c_ K_)))) rfl fun es1 ce1 ie1 se1 ve1 Hk1 Hx1 ho1 hw1=>Zz 2 ?_
  refine I_ (fun _ a b=>⟨Vw.sat.sub (a.perm (f_ (c_ (e_ (e_ (c_ d_)))) (f_ (c_ (e_ (e_ (c_ d_)))) (f_ (c_ (e_ (e_ (c_ d_)))) (c_ (e_ (e_ (c_ d_)))))))),b⟩) (q_ 2 [8,10] zk (fun _ a b=>⟨Vw.sat.sub (a.perm (f_ (c_ (e_ (e_ (c_ d_)))) (f_ (c_ (e_ (e_ (c_ d_)))) (f_ (c_ (e_ (e_ (c_ d_)))) (c_ (e_ (e_ (c_ d_)))))))),b⟩) (Zz 3 ?_))
  refine l_ 9 rfl zk (ak_ (news:=List.flatMap Pc.cells [x]) ny_ hw1 rfl rfl zp rfl (bz_ zp) (fun u hu=>ax_ Pc.cells_one hu) (by simp only[maxLen];omega) (by omega) rfl fun sv1 Hr1 hr1=>?_)
  have hq1:=zsa hr1
  refine Zz 2 ?_
  refine I_ (fun _ a b=>⟨Vw.sat.sub (a.perm (f_ (e_ (c_ (e_ (c_ d_)))) (f_ (e_ (c_ (e_ (c_ d_)))) (f_ (e_ (c_ (e_ (c_ d_)))) (e_ (c_ (e_ (c_ d_)))))))),b⟩) (l_ 11 rfl zk (aB_ (k:=(Ky.mk x.kind ro at')) (dd:=x) ho1 (by rw[be_];exact hq1) rfl rfl rfl (aV_ (f_ (e_ d_) (o_ j_ j_))) fun H2 hM2=>?_))
  refine Zz 2 ?_
  refine I_ zs (Zz 2 ?_)
  exact bM_ Tryz.results123 ⟨H2,hM2⟩ rfl zp zt
theorem ph_ (x:Pc) (pm:List (Ky×Pc)) (lps:List Str) (g pb kb ab ub ob ib rb sb fb:Nat) (ev:Value) (lv:Value) (Hm Hl:Hp) (hm:aP_ Ky.val Pc.cells 52 10 pm pb Hm) (hl:zR 9 1 aS_ lv lps Hl) (hpl:pm.length≤900000000) (hll:lps.length≤900000000):Tri Tryz.prog 84 #[zp_ g 0,Pc.val x] ((g,.cells #[.map (some pb),lv,.map (some kb),ev,.map (some ab),.map (some ub),.map (some ob),.map (some ib),.map (some rb),.map (some sb),.map (some fb)] 80 (0,0))::(Hm++Hl)) [] (fun _:{y:Value×Hp×Hp // aP_ Ky.val Pc.cells 52 10 (pm++bQ_ x) pb y.2.1∧zR 9 1 aS_ y.1 (lps++ai_ [x]) y.2.2}=>.tuple #[]) (fun y=>(g,.cells #[.map (some pb),y.1.1,.map (some kb),ev,.map (some ab),.map (some ub),.map (some ob),.map (some ib),.map (some rb),.map (some sb),.map (some fb)] 80 (0,0))::(y.1.2.1++y.1.2.2)) (fun _=>[]):=by
 refine u_ Tryz.func84 rfl rfl Tryz.ntmps84 rfl fun v0=>?_
 refine Zz 2 ?_
 refine aA_ rfl rfl fun b1=>aA_ rfl rfl fun b2=>Zz 4 ?_
 refine i_ (cx_ rfl rfl) rfl (Zi 13 (fun hr1=>?_) fun hr1=>?_)
 ·refine Zi 6 (fun hr2=>?_) fun hr2=>?_
  ·refine Zi 5 (fun hr3=>?_) fun hr3=>?_
   ·refine Zi 6 (fun hr4=>?_) fun hr4=>?_
    ·refine Zi 6 (fun hr5=>?_) fun hr5=>?_
     ·refine Zi 7 (fun hr6=>?_) fun hr6=>?_
      ·refine Zi 5 (fun hr7=>?_) fun hr7=>?_
       ·refine Zi 6 (fun hr8=>?_) fun hr8=>?_
        ·refine Zi 6 (fun hr9=>?_) fun hr9=>?_
         ·refine Zz 6 ?_
          have e1:pm=pm++bQ_ x:=by simp[bQ_, *]
          have e2:lps=lps++ai_ [x]:=by simp[ai_, *]
          exact bM_ cI_ ⟨(lv,Hm,Hl),e1▸hm,e2▸hl⟩ rfl zp zt
         refine Zz 4 ?_
         refine af_ ((b2,.cells #[.int .i64 x.kind,str x.a,str x.b,str x.c,str x.r,str x.s,str x.t,.int .i64 x.lo,.int .i64 x.hi,.int .i64 x.frm] 52 (0,0))::((b1,.cells #[zp_ g 0] 71 (0,0))::[])) zk ?_
         refine q_ 6 [0,1,2,3,5,6] zk zs (Zz 7 ?_)
         refine bU_ 4 7 rfl rfl zk ?_ ?_
         ·refine Zz 3 ?_
          refine I_ zs (l_ 7 rfl zk (Q_ B_ J_ aW_ rfl rfl rfl rfl rfl rfl fun b3=>Zz 2 ?_))
          refine I_ zs (l_ 8 rfl zk (ak_ (news:=List.flatMap aS_ [x.r]) cX_ hl rfl rfl zp rfl (bq_ 0 rfl) (fun u hu=>ax_ cy_ hu) (by simp only[maxLen];first|omega|(simp;omega)) (by first|omega|(simp;omega)) rfl fun sv1 Hr1 hr1=>?_))
          have hq1:=zsa hr1
          refine Zz 2 ?_
          refine I_ zs (q_ 1 [9,10] zk zs (Zz 3 ?_))
          refine l_ 11 rfl zk (w_ (p_ (e_ d_) (p_ (e_ d_) (p_ (e_ d_) (an_ (e_ d_))))) (dG_ 3 hq1 sF_ rfl rfl rfl rfl (Zz 2 ?_)))
          refine I_ (fun _ a b=>⟨Vw.sat.sub (a.perm (f_ (c_ d_) (c_ d_))),b⟩) (Zz 2 ?_)
          have e1:pm=pm++bQ_ x:=by simp[bQ_, *]
          have e2:(lps++[x.r])=lps++ai_ [x]:=by simp[ai_, *]
          exact bM_ cI_ ⟨(sv1,Hm,Hr1),e1▸hm,e2▸hq1⟩ rfl (f_ (c_ (c_ (c_ d_))) (o_ (c_ (c_ (c_ Y_))) (c_ (c_ K_)))) zt
         refine Q_ B_ J_ aW_ rfl rfl rfl rfl rfl rfl fun b4=>Zz 2 ?_
         refine I_ zs (l_ 4 rfl zk (Zz 3 ?_))
         refine I_ zs (l_ 8 rfl zk (ak_ (news:=List.flatMap aS_ [x.r]) cX_ hl rfl rfl zp rfl (bq_ 0 rfl) (fun u hu=>ax_ cy_ hu) (by simp only[maxLen];first|omega|(simp;omega)) (by first|omega|(simp;omega)) rfl fun sv2 Hr2 hr2=>?_))
         have hq2:=zsa hr2
         refine Zz 2 ?_
         refine I_ zs (q_ 1 [9,10] zk zs (Zz 3 ?_))
         refine l_ 11 rfl zk (w_ (p_ (e_ d_) (p_ (e_ d_) (p_ (e_ d_) (an_ (e_ d_))))) (dG_ 3 hq2 sF_ rfl rfl rfl rfl (Zz 2 ?_)))
         refine I_ (fun _ a b=>⟨Vw.sat.sub (a.perm (f_ (c_ d_) (c_ d_))),b⟩) (Zz 2 ?_)
         have e1:pm=pm++bQ_ x:=by simp[bQ_, *]
         have e2:(lps++[x.r])=lps++ai_ [x]:=by simp[ai_, *]
         exact bM_ cI_ ⟨(sv2,Hm,Hr2),e1▸hm,e2▸hq2⟩ rfl (f_ (c_ (c_ (c_ d_))) (o_ (c_ (c_ (c_ Y_))) (c_ (c_ K_)))) zt
        refine Zz 9 ?_
        refine ao_ (gD_ x x.r [] pm b2 b1 g pb kb ab ub ob ib rb sb fb ev lv Hm hm (by first|omega|(simp;omega))) rfl rfl zp zt rfl fun⟨HP1,hP1⟩=>?_
        dsimp only
        simp only[List.cons_append]
        refine Zz 6 ?_
        refine ao_ (gD_ x [] x.s (pm++[((Ky.mk x.kind x.r []),x)]) b2 b1 g pb kb ab ub ob ib rb sb fb ev lv HP1 hP1 (by first|omega|(simp;omega))) rfl rfl zp zt rfl fun⟨HP2,hP2⟩=>?_
        dsimp only
        simp only[List.cons_append]
        refine Zz 2 ?_
        have e1:((pm++[((Ky.mk x.kind x.r []),x)])++[((Ky.mk x.kind [] x.s),x)])=pm++bQ_ x:=by simp[bQ_, *]
        have e2:lps=lps++ai_ [x]:=by simp[ai_, *]
        exact bM_ cI_ ⟨(lv,HP2,Hl),e1▸hP2,e2▸hl⟩ rfl zp zt
       refine Zz 8 ?_
       refine ao_ (gD_ x x.r [] pm b2 b1 g pb kb ab ub ob ib rb sb fb ev lv Hm hm (by first|omega|(simp;omega))) rfl rfl zp zt rfl fun⟨HP3,hP3⟩=>?_
       dsimp only
       simp only[List.cons_append]
       refine Zz 2 ?_
       have e1:(pm++[((Ky.mk x.kind x.r []),x)])=pm++bQ_ x:=by simp[bQ_, *]
       have e2:lps=lps++ai_ [x]:=by simp[ai_, *]
       exact bM_ cI_ ⟨(lv,HP3,Hl),e1▸hP3,e2▸hl⟩ rfl zp zt
      refine Zz 11 ?_
      refine ao_ (gD_ x x.r [] pm b2 b1 g pb kb ab ub ob ib rb sb fb ev lv Hm hm (by first|omega|(simp;omega))) rfl rfl zp zt rfl fun⟨HP4,hP4⟩=>?_
      dsimp only
      simp only[List.cons_append]
      refine Zz 2 ?_
      have e1:(pm++[((Ky.mk x.kind x.r []),x)])=pm++bQ_ x:=by simp[bQ_, *]
      have e2:lps=lps++ai_ [x]:=by simp[ai_, *]
      exact bM_ cI_ ⟨(lv,HP4,Hl),e1▸hP4,e2▸hl⟩ rfl zp zt
     refine Zz 9 ?_
     refine ao_ (gD_ x [] x.a pm b2 b1 g pb kb ab ub ob ib rb sb fb ev lv Hm hm (by first|omega|(simp;omega))) rfl rfl zp zt rfl fun⟨HP5,hP5⟩=>?_
     dsimp only
     simp only[List.cons_append]
     refine Zz 8 ?_
     refine ao_ (gD_ x x.r x.a (pm++[((Ky.mk x.kind [] x.a),x)]) b2 b1 g pb kb ab ub ob ib rb sb fb ev lv HP5 hP5 (by first|omega|(simp;omega))) rfl rfl zp zt rfl fun⟨HP6,hP6⟩=>?_
     dsimp only
     simp only[List.cons_append]
     refine Zz 2 ?_
     have e1:((pm++[((Ky.mk x.kind [] x.a),x)])++[((Ky.mk x.kind x.r x.a),x)])=pm++bQ_ x:=by simp[bQ_, *]
     have e2:lps=lps++ai_ [x]:=by simp[ai_, *]
     exact bM_ cI_ ⟨(lv,HP6,Hl),e1▸hP6,e2▸hl⟩ rfl zp zt
    refine Zz 9 ?_
    refine ao_ (gD_ x [] x.a pm b2 b1 g pb kb ab ub ob ib rb sb fb ev lv Hm hm (by first|omega|(simp;omega))) rfl rfl zp zt rfl fun⟨HP7,hP7⟩=>?_
    dsimp only
    simp only[List.cons_append]
    refine Zi 8 (fun hr10=>?_) fun hr10=>?_
    ·refine Zz 5 ?_
     have e1:(pm++[((Ky.mk x.kind [] x.a),x)])=pm++bQ_ x:=by simp[bQ_, *]
     have e2:lps=lps++ai_ [x]:=by simp[ai_, *]
     exact bM_ cI_ ⟨(lv,HP7,Hl),e1▸hP7,e2▸hl⟩ rfl zp zt
    refine Zz 7 ?_
    refine ao_ (gD_ x [] x.b (pm++[((Ky.mk x.kind [] x.a),x)]) b2 b1 g pb kb ab ub ob ib rb sb fb ev lv HP7 hP7 (by first|omega|(simp;omega))) rfl rfl zp zt rfl fun⟨HP8,hP8⟩=>?_
    dsimp only
    simp only[List.cons_append]
    refine Zz 2 ?_
    have e1:((pm++[((Ky.mk x.kind [] x.a),x)])++[((Ky.mk x.kind [] x.b),x)])=pm++bQ_ x:=by simp[bQ_, *]
    have e2:lps=lps++ai_ [x]:=by simp[ai_, *]
    exact bM_ cI_ ⟨(lv,HP8,Hl),e1▸hP8,e2▸hl⟩ rfl zp zt
   refine Zz 8 ?_
   refine ao_ (gD_ x [] x.a pm b2 b1 g pb kb ab ub ob ib rb sb fb ev lv Hm hm (by first|omega|(simp;omega))) rfl rfl zp zt rfl fun⟨HP9,hP9⟩=>?_
   dsimp only
   simp only[List.cons_append]
   refine Zz 2 ?_
   have e1:(pm++[((Ky.mk x.kind [] x.a),x)])=pm++bQ_ x:=by simp[bQ_, *]
   have e2:lps=lps++ai_ [x]:=by simp[ai_, *]
   exact bM_ cI_ ⟨(lv,HP9,Hl),e1▸hP9,e2▸hl⟩ rfl zp zt
  refine Zz 11 ?_
  refine ao_ (gD_ x [] x.a pm b2 b1 g pb kb ab ub ob ib rb sb fb ev lv Hm hm (by first|omega|(simp;omega))) rfl rfl zp zt rfl fun⟨HP10,hP10⟩=>?_
  dsimp only
  simp only[List.cons_append]
  refine Zz 2 ?_
  have e1:(pm++[((Ky.mk x.kind [] x.a),x)])=pm++bQ_ x:=by simp[bQ_, *]
  have e2:lps=lps++ai_ [x]:=by simp[ai_, *]
  exact bM_ cI_ ⟨(lv,HP10,Hl),e1▸hP10,e2▸hl⟩ rfl zp zt
 refine Zz 11 ?_
 refine ao_ (gD_ x [] x.a pm b2 b1 g pb kb ab ub ob ib rb sb fb ev lv Hm hm (by first|omega|(simp;omega))) rfl rfl zp zt rfl fun⟨HP11,hP11⟩=>?_
 dsimp only
 simp only[List.cons_append]
 refine Zz 2 ?_
 have e1:(pm++[((Ky.mk x.kind [] x.a),x)])=pm++bQ_ x:=by simp[bQ_, *]
 have e2:lps=lps++ai_ [x]:=by simp[ai_, *]
 exact bM_ cI_ ⟨(lv,HP11,Hl),e1▸hP11,e2▸hl⟩ rfl zp zt
structure NewE where
  g:Nat
  pb:Nat
  kb:Nat
  ab:Nat
  ub:Nat
  ob:Nat
  ib:Nat
  rb:Nat
  sb:Nat
  fb:Nat
  lv:Value
  hm:Hp
  hl:Hp
def NewE.ok (ps:List Pc) (y:NewE):Prop:=aP_ Ky.val Pc.cells 52 10 (aC_ ps) y.pb y.hm∧zR 9 1 aS_ y.lv (ai_ ps) y.hl
def NewE.own (y:NewE):Hp:=(y.g,.cells #[.map (some y.pb),y.lv,.map (some y.kb),.nilFunc,.map (some y.ab),.map (some y.ub),.map (some y.ob),.map (some y.ib),.map (some y.rb),.map (some y.sb),.map (some y.fb)] 80 (0,0))::(y.kb,.map #[] 0)::(y.ab,.map #[] 0)::(y.ub,.map #[] 0)::(y.ob,.map #[] 0)::(y.ib,.map #[] 0)::(y.rb,.map #[] 0)::(y.sb,.map #[] 0)::(y.fb,.map #[] 0)::(y.hm++y.hl)
theorem eZ_ {p:List Pc} {i:Nat} {x:Pc} (h:p[i]? = some x):uniq [] (List.take (i+1) p)=if x.zf∈uniq [] (List.take i p) then uniq [] (List.take i p) else uniq [] (List.take i p)++[x.zf]:=by
  have key:∀ (l:List Pc) (r:List Pc),uniq l (r++[x])=if x.zf∈uniq l r then uniq l r else uniq l r++[x.zf]:=by
    intro l r
    induction r generalizing l with
    | nil=>rfl
    | cons y r ih=>exact ih _
  rw[List.take_add_one,h,Option.toList_some]
  exact key _ _
theorem oz_ (l:List Pc) (x:Pc):aC_ (l++[x])=aC_ l++bQ_ x:=by simp[aC_]
theorem lo_ (l:List Pc) (x:Pc):ai_ (l++[x])=ai_ l++ai_ [x]:=by simp[ai_]
theorem pW_ (x:Pc):(bQ_ x).length≤2:=by unfold bQ_;(repeat' split)<;>simp
theorem jC_:∀ l:List Pc,(aC_ l).length≤2*l.length
  | []=>by simp[aC_]
  | x::l=>by
    have:=jC_ l
    have h2:=pW_ x
    simp only[aC_,List.flatMap_cons,List.length_append,List.length_cons]at this ⊢
    omega
theorem iE_ (l:List Pc):(ai_ l).length≤l.length:=by
  simp only[ai_,List.length_map];exact List.length_filter_le _ _
theorem mp_ (p:List Pc) (pad:Option Addr) (pcap:Nat) (hp:p.length≤100000000):Tri Tryz.prog 40 #[.slice pad (List.length p) pcap] [] [aq_ pad (List.flatMap Pc.cells p)] (fun y:{y:NewE // y.ok (uniq [] p)}=>zp_ y.1.g 0) (fun y=>y.1.own) (fun _=>[]):=by
 refine u_ Tryz.func40 rfl rfl Tryz.ntmps40 rfl fun v0=>?_
 refine Zz 7 ?_
 refine bJ_ rfl fun b1=>bJ_ rfl fun b2=>bJ_ rfl fun b3=>bJ_ rfl fun b4=>bJ_ rfl fun b5=>bJ_ rfl fun b6=>bJ_ rfl fun b7=>bJ_ rfl fun b8=>bJ_ rfl fun b9=>i_ (F_ strt80 rfl rfl) rfl ?_
 refine aA_ rfl rfl fun b10=>Zz 5 ?_
 refine bJ_ rfl fun b11=>Zz 12 ?_
 refine X_ (ι:={y:Nat×Array MapEntry×Nat×Hp×Value×Hp // y.1≤List.length p∧SetE Pc.val y.2.1 (uniq [] (List.take y.1 p))∧aP_ Ky.val Pc.cells 52 10 (aC_ (uniq [] (List.take y.1 p))) b1 y.2.2.2.1∧zR 9 1 aS_ y.2.2.2.2.1 (ai_ (uniq [] (List.take y.1 p))) y.2.2.2.2.2}) (fun y=>[(3,zp_ b10 0),(4,.map (some b11)),(19,.slice pad (List.length p) pcap),(20,.int .i64 (List.length p:Int)),(21,.int .i64 (y.1.1:Int))]) (fun y=>((b10,.cells #[.map (some b1),y.1.2.2.2.2.1,.map (some b2),.nilFunc,.map (some b3),.map (some b4),.map (some b5),.map (some b6),.map (some b7),.map (some b8),.map (some b9)] 80 (0,0))::((b11,.map y.1.2.1 y.1.2.2.1)::((b2,.map #[] 0)::((b3,.map #[] 0)::((b4,.map #[] 0)::((b5,.map #[] 0)::((b6,.map #[] 0)::((b7,.map #[] 0)::((b8,.map #[] 0)::((b9,.map #[] 0)::(y.1.2.2.2.1++y.1.2.2.2.2.2)))))))))))) (fun y=>[aq_ pad (List.flatMap Pc.cells p)]) (fun y=>List.length p - y.1.1) ⟨((0:Nat),#[],0,[(b1,.map #[] 0)],(.slice none 0 0),[]),by simp,by exact SetE.nil,by exact aP_.nil _ _,(aE_.nil 9 1)⟩ zl zp zh ?_
 rintro ⟨⟨i,es,cs,Hm,sv_L,H_L⟩,hi,hE,hm,hr_L⟩
 dsimp only at hi hE hm hr_L ⊢
 have hbu:=hI_ (List.take i p) []
 have hbt:=List.length_take_le i p
 simp only[List.length_nil]at hbu
 have hbp:(aC_ (uniq [] (List.take i p))).length≤900000000:=by have:=jC_ (uniq [] (List.take i p));omega
 have hbl:(ai_ (uniq [] (List.take i p))).length≤900000000:=by have:=iE_ (uniq [] (List.take i p));omega
 refine Zi 2 (fun hr1=>?_) fun hr1=>?_
 ·refine Zz 13 ?_
  have e9:List.take i p=p:=List.take_of_length_le (by omega)
  rw[e9]at hm hr_L
  exact al_ Tryz.results40 ⟨NewE.mk b10 b1 b2 b3 b4 b5 b6 b7 b8 b9 sv_L Hm H_L,hm,hr_L⟩ rfl (f_ d_ (f_ (c_ d_) (f_ (c_ d_) (f_ (c_ d_) (f_ (c_ d_) (f_ (c_ d_) (f_ (c_ d_) (f_ (c_ d_) (f_ (c_ d_) (o_ (c_ j_) K_)))))))))) zt
 obtain⟨hlx1,x1,hx1,hmx1⟩:=zge (show i<List.length p by omega)
 refine Zz 12 ?_
 refine L_ aL_ rfl fun b12=>A_ 0 R_ rfl rfl rfl rfl rfl rfl (Zz 5 ?_)
 refine A_ 0 s_ rfl rfl rfl rfl rfl rfl (Zz 6 ?_)
 refine aT_ (fs_ (k:=Pc.zf x1) (q:=(uniq [] (List.take i p))) lr_ Tryz.runUnderlying124 eB_ rfl rfl hE (fun v h _=>(h.own _ (List.mem_of_getElem? (i:=2) rfl)).1)) rfl fun r2 hr2=>i_ (bI_ rfl) rfl (Zz 2 ?_)
 cases r2
 ·replace hr2:=zdf hr2
  refine Zz 5 ?_
  refine jG_ (k:=Pc.zf x1) (q:=(uniq [] (List.take i p))) 2 lr_ (.inr rfl) Tryz.runUnderlying124 rfl rfl rfl rfl hE fun es1 c1 hE1=>Zz 5 ?_
  refine n_ (ph_ x1.zf (aC_ (uniq [] (List.take i p))) (ai_ (uniq [] (List.take i p))) b10 b1 b2 b3 b4 b5 b6 b7 b8 b9 .nilFunc sv_L Hm H_L hm hr_L  hbp hbl) rfl (f_ (c_ d_) (o_ (c_ (c_ (c_ (c_ (c_ (c_ (c_ (c_ (c_ (c_ j_)))))))))) (c_ (c_ (c_ (c_ (c_ (c_ (c_ (c_ (c_ K_))))))))))) zt rfl fun⟨⟨lv1,HA1,HA2⟩,hA1,hA2⟩=>?_
  dsimp only
  simp only[List.cons_append,List.append_assoc]
  refine Zz 2 ?_
  refine w_ (p_ d_ (p_ (e_ (e_ d_)) (p_ (e_ (e_ d_)) (p_ (e_ (e_ d_)) (p_ (e_ (e_ d_)) (p_ (e_ (e_ d_)) (p_ (e_ (e_ d_)) (p_ (e_ (e_ d_)) (p_ (e_ (e_ d_)) (p_ (e_ (e_ d_)) (an_ (e_ Y_)))))))))))) (Zz 5 ?_)
  exact C_ ⟨(i+1,es1,c1,HA1,lv1,HA2),hlx1,by rw[eZ_ hx1];exact hE1,by rw[eZ_ hx1,if_neg (by assumption),oz_];exact hA1,(by rw[eZ_ hx1,if_neg (by assumption),lo_];exact hA2)⟩ (by dsimp only;omega) zl zp zh
 replace hr2:=zdt hr2
 refine Zz 8 ?_
 exact C_ ⟨(i+1,es,cs,Hm,sv_L,H_L),hlx1,by rw[eZ_ hx1,if_pos (by assumption)];exact hE,by rw[eZ_ hx1,if_pos (by assumption)];exact hm,(by rw[eZ_ hx1,if_pos (by assumption)];exact hr_L)⟩ (by dsimp only;omega) zl (f_ (c_ d_) (f_ (c_ d_) (f_ (c_ d_) (f_ (c_ d_) (f_ (c_ d_) (f_ (c_ d_) (f_ (c_ d_) (f_ (c_ d_) (f_ (c_ d_) (f_ (c_ d_) (o_ (c_ j_) K_))))))))))) zh
end Go.Proofs.YtkeanlfhghlgiaaGreatDoor
namespace Go.Proofs.YtkeanlfhghlgiaaGreatDoor
open Go Go.Sx Go.Proofs
attribute [local irreducible] Code.wp wpList wpAnyH
open Go.Vs
theorem jl_ {P:Program} {N:Nf} {fr:Fr} {H:Hp} {Γ:List Fct} {ty:TypeId} {K:Type} [DecidableEq K] {kv:K→Value} {t kt et:TypeId} {x:Operand} {mb c:Nat} {es:Array MapEntry} {q:List K} (hE:SetE kv es q) (hu:∀ w,(underlying t).run P w=.ok (.map kt et) w) (hx:Fr.ev fr x=some (.map (some mb))) (hm:∀ v,v.sat H→aj_ Γ v→v.w.heap[mb]? = some (.map es c)) :
    Yld P N fr H Γ (.call ⟨.builtin .len,#[x],#[t]⟩) ty (.int .i64 (q.length:Int)):=by
  rw[← hE.size];exact po_ hu hx hm
def andF (a b:Fct):Fct where
  p v:=a.p v∧b.p v
  mono:=fun v v' h ⟨h1,h2⟩=>⟨a.mono v v' h h1,b.mono v v' h h2⟩
def StA (b9 kb fb:Nat) (nw fm:List Fc) (H:Hp):Prop:=∃ sv es c es' c' q Hq,H=(b9,.cells #[sv] 37 (0,0))::(kb,.map es c)::([(fb,.map es' c')]++Hq)∧aE_ 24 6 sv nw.length (nw.flatMap Fc.cells) Hq∧SetE Fc.val es nw∧SetE Fc.val es' q∧∀ f,f∈q↔f∈fm
theorem sj_ (f:Fc) (nw fm:List Fc) (m:Nat) (hm:m≤65536) (g b7 b8 b9 kb fb:Nat) (c0 c1 c3 c4 c5 c6 c7 c8 c9 c10 sv:Value) (es es2:Array MapEntry) (c c2:Nat) (q:List Fc) (Hq:Hp) (hr:aE_ 24 6 sv nw.length (nw.flatMap Fc.cells) Hq) (hE:SetE Fc.val es nw) (hF:SetE Fc.val es2 q) (hq:∀ f,f∈q↔f∈fm):Tri Tryz.prog 41 #[Fc.val f,zp_ b7 0,zp_ b8 0,zp_ b9 0] ((b9,.cells #[sv] 37 (0,0))::(kb,.map es c)::([(fb,.map es2 c2)]++Hq)) [ef_ b7 (.cells #[zp_ g 0] 71 (0,0)),ef_ b8 (.cells #[.int .i64 (m:Int)] 3 (0,0)),ef_ g (.cells #[c0,c1,.map (some kb),c3,c4,c5,c6,c7,c8,c9,c10] 80 (0,0))] (fun _:{H:Hp // StA b9 kb fb (bi_ m f nw) fm H}=>.tuple #[]) (fun y=>y.1) (fun _=>[]):=by
 refine u_ Tryz.func41 rfl rfl Tryz.ntmps41 rfl fun v0=>?_
 refine Zz 2 ?_
 refine aA_ rfl rfl fun b1=>Zz 4 ?_
 refine q_ 8 [0,1,2,3,4,5,6,7] zk zs (Zz 4 ?_)
 refine T_ rfl (jl_ hE aH_ rfl (fun v h _=>(h.own _ (List.mem_of_getElem? (i:=2) rfl)).1)) rfl (Zi 1 (fun hr1=>?_) fun hr1=>?_)
 ·refine Zz 2 ?_
  refine q_ 0 [8,9,10,11,12,13,14,15] zk zs (Zz 14 ?_)
  have e0:bi_ m f nw=nw:=by unfold bi_;rw[if_neg (by rintro ⟨q1,q2⟩;first|omega|exact absurd (by assumption) q2)]
  exact bM_ Tryz.results41 ⟨_,sv,es,c,es2,c2,q,Hq,rfl,by rw[e0];exact hr,by rw[e0];exact hE,hF,hq⟩ rfl zp zt
 refine Zz 2 ?_
 refine q_ 0 [8,9,10,11,12,13,14,15] zk zs (Zz 5 ?_)
 refine bD_ rfl rfl rfl (fs_ (k:=f) eO_ aH_ eB_ rfl rfl hE (fun v h _=>(h.own _ (List.mem_of_getElem? (i:=2) rfl)).1)) rfl fun r2 hr2=>ft_ rfl rfl rfl (bI_ rfl) rfl (Zz 4 ?_)
 cases r2
 ·replace hr2:=zdf hr2
  refine Zz 2 ?_
  refine af_ ((b1,.cells #[.int .i64 f.kind,str f.a,str f.b,str f.r,.int .i64 f.lo,.int .i64 f.hi] 24 (0,0))::((b9,.cells #[sv] 37 (0,0))::[])) zk ?_
  refine q_ 1 [0,1,2,3,4] zk zs (Zz 6 ?_)
  refine l_ 5 rfl zk (jG_ (k:=f) 2 eO_ (.inr rfl) aH_ rfl rfl rfl rfl hE fun ej1 cj1 hj1=>Zz 8 ?_)
  refine Q_ ah_ z_ Z_ rfl rfl rfl rfl rfl rfl fun b2=>?_
  refine ak_ (news:=List.flatMap Fc.cells [f]) lF_ hr rfl rfl (c_ (c_ (c_ (c_ Y_)))) rfl (bq_ 0 rfl) (fun u hu=>ax_ Fc.cells_one hu) (by simp only[maxLen];omega) (by omega) rfl fun sv1 Hr1 hr1=>?_
  have hq1:=zsa hr1
  refine w_ (p_ (e_ d_) (p_ (e_ d_) (p_ (e_ d_) (an_ (e_ d_))))) (dG_ 2 hq1 Tryz.sizeOf37 rfl rfl rfl rfl (Zz 2 ?_))
  have e0:bi_ m f nw=nw++[f]:=by unfold bi_;rw[if_pos ⟨by omega,by assumption⟩]
  exact bM_ Tryz.results41 ⟨_,sv1,ej1,cj1,es2,c2,q,Hr1,rfl,by rw[e0];exact hq1,by rw[e0];rw[if_neg (by assumption)]at hj1;exact hj1,hF,hq⟩ rfl (f_ (c_ (c_ d_)) (f_ (c_ (c_ d_)) (o_ (c_ (c_ Y_)) (c_ K_)))) zt
 replace hr2:=zdt hr2
 refine Zz 3 ?_
 have e0:bi_ m f nw=nw:=by unfold bi_;rw[if_neg (by rintro ⟨q1,q2⟩;first|omega|exact absurd (by assumption) q2)]
 exact bM_ Tryz.results41 ⟨_,sv,es,c,es2,c2,q,Hq,rfl,by rw[e0];exact hr,by rw[e0];exact hE,hF,hq⟩ rfl zp zt
end Go.Proofs.YtkeanlfhghlgiaaGreatDoor
namespace Go.Proofs.YtkeanlfhghlgiaaGreatDoor
open Go Go.Sx Go.Proofs
attribute [local irreducible] Code.wp wpList wpAnyH
open Go.Vs
def EA (m:Nat) (hm:m≤65536) (B:EngB) (b7 b8 b9 kb fb:Nat):Emt Tryz.prog 24 where
 stp:=bi_ m
 kof:=idk
 St:=StA b9 kb fb
 fn:=41
 caps:=[zp_ b7 0,zp_ b8 0,zp_ b9 0]
 ef:=andF (ef_ b7 (.cells #[zp_ B.g 0] 71 (0,0))) (andF (ef_ b8 (.cells #[.int .i64 (m:Int)] 3 (0,0))) (ef_ B.g (.cells #[.map (some B.pb),.slice B.lad B.lps.length B.lcap,.map (some kb),.func (.func 41) #[] #[zp_ b7 0,zp_ b8 0,zp_ b9 0],.map (some B.ab),.map (some B.ub),.map (some B.ob),.map (some B.ib),.map (some B.rb),.map (some B.sb),.map (some fb)] 80 (0,0))))
 kb:=kb
 fb:=fb
 grows:=eM_ m
 emit:=fun f nw fm H hS=>by
   obtain⟨sv,es,c,es2,c2,q,Hq,rfl,h1,h2,h3,h4⟩:=hS
   exact lT_ [] (sj_ f nw fm m hm B.g b7 b8 b9 kb fb _ _ _ _ _ _ _ _ _ _ sv es es2 c c2 q Hq h1 h2 h3 h4) (fun v _ h=>⟨h.1.1,h.1.2.1,h.1.2.2,trivial⟩)
 known:=fun hS=>by
   obtain⟨sv,es,c,es2,c2,q,Hq,rfl,h1,h2,h3,h4⟩:=hS
   exact⟨es,c,by simp,h2⟩
 firm:=fun hS=>by
   obtain⟨sv,es,c,es2,c2,q,Hq,rfl,h1,h2,h3,h4⟩:=hS
   exact⟨es2,c2,q,by simp,h3,h4⟩
 setf:=fun {nw fm H} f hS=>by
   obtain⟨sv,es,c,es2,c2,q,Hq,rfl,h1,h2,h3,h4⟩:=hS
   refine⟨es2,c2,q,(b9,.cells #[sv] 37 (0,0))::(kb,.map es c)::Hq,an_ zp,h3,h4,fun es' c' h5=>⟨(b9,.cells #[sv] 37 (0,0))::(kb,.map es c)::([(fb,.map es' c')]++Hq),⟨sv,es,c,es',c',_,Hq,rfl,h1,h2,h5,?_⟩,an_ zp⟩⟩
   intro z
   split
   · rename_i hz;rw[h4,List.mem_cons];constructor
     · exact .inr
     · rintro (rfl|h)
       · exact (h4 _).1 hz
       · exact h
   · rw[List.mem_append,List.mem_singleton,h4,List.mem_cons,or_comm]
end Go.Proofs.YtkeanlfhghlgiaaGreatDoor
namespace Go.Proofs.YtkeanlfhghlgiaaGreatDoor
open Go Go.Sx Go.Proofs
attribute [local irreducible] Code.wp wpList wpAnyH
open Go.Vs
def fvC (v:Value):List Value:=[v]
theorem hg_ (v:Value):(fvC v).length=1:=rfl
theorem ol_ {P:Program} {N:Nf} {fr:Fr} {H:Hp} {Γ:List Fct} {ty:TypeId} {t e:TypeId} {n sz:Nat} {parts:List (Nat×Operand)} {vs:List (Nat×Value)} {z cs:List Value} (hz:∀ w,(zeroValue t).run P w=.ok (.agg z.toArray) w) (hu:∀ w,(underlying t).run P w=.ok (.array n e) w) (hs:∀ w,(sizeOf e).run P w=.ok sz w) (hx:Fr.evp fr parts=some vs) (hf:iH_ (fun i=>some (i*sz,sz)) z vs=some cs) :
    Yld P N fr H Γ (.build t parts.toArray) ty (.agg cs.toArray) :=
  kx_ (fun a h1 w=>by
    have:=h1.evp hx
    rw[List.map_toArray,this]
    have hf':=gM_ _ _ _ _ hf
    simp only[Instr.build,Sem.run_bind,hz,Result.andThen_ok,hu,hs,Value.cells,hf',Sem.run_pure])
def rlV (g:Nat) (k:Nat):List Value:=if k=1 then [(Value.func (.func 89) #[zp_ g 0] #[]),(Value.func (.func 90) #[zp_ g 0] #[]),(Value.func (.func 91) #[zp_ g 0] #[]),(Value.func (.func 92) #[zp_ g 0] #[]),(Value.func (.func 93) #[zp_ g 0] #[]),(Value.func (.func 94) #[zp_ g 0] #[])] else if k=2 then [(Value.func (.func 95) #[zp_ g 0] #[]),(Value.func (.func 96) #[zp_ g 0] #[]),(Value.func (.func 97) #[zp_ g 0] #[]),(Value.func (.func 98) #[zp_ g 0] #[])] else [(Value.func (.func 99) #[zp_ g 0] #[]),(Value.func (.func 100) #[zp_ g 0] #[])]
theorem rC_ (g:Nat):Tri Tryz.prog 44 #[zp_ g 0] [] [] (fun y:Nat×Nat×Nat=>.agg #[.slice none 0 0,.slice (some ⟨y.1,0,none⟩) 6 6,.slice (some ⟨y.2.1,0,none⟩) 4 4,.slice (some ⟨y.2.2,0,none⟩) 2 2]) (fun _=>[]) (fun y=>[aq_ (some ⟨y.1,0,none⟩) (List.flatMap fvC (rlV g 1)),aq_ (some ⟨y.2.1,0,none⟩) (List.flatMap fvC (rlV g 2)),aq_ (some ⟨y.2.2,0,none⟩) (List.flatMap fvC (rlV g 3))]):=by
  refine u_ Tryz.func44 rfl rfl Tryz.ntmps44 rfl fun v0=>?_
  refine Zz 2 ?_
  refine L_ Tryz.zeroValue83 rfl fun b1=>Zz 5 ?_
  refine i_ (cx_ (us:=[zp_ g 0]) (vs:=[]) rfl rfl) rfl (Zz 1 ?_)
  refine i_ (cx_ (us:=[zp_ g 0]) (vs:=[]) rfl rfl) rfl (Zz 1 ?_)
  refine i_ (cx_ (us:=[zp_ g 0]) (vs:=[]) rfl rfl) rfl (Zz 1 ?_)
  refine i_ (cx_ (us:=[zp_ g 0]) (vs:=[]) rfl rfl) rfl (Zz 1 ?_)
  refine i_ (cx_ (us:=[zp_ g 0]) (vs:=[]) rfl rfl) rfl (Zz 1 ?_)
  refine i_ (cx_ (us:=[zp_ g 0]) (vs:=[]) rfl rfl) rfl (Q_ bg_ eH_ Tryz.zeroValue75 rfl rfl rfl rfl rfl rfl fun b2=>?_)
  refine aJ_ (List.flatMap fvC [(Value.func (.func 89) #[zp_ g 0] #[]),(Value.func (.func 90) #[zp_ g 0] #[]),(Value.func (.func 91) #[zp_ g 0] #[]),(Value.func (.func 92) #[zp_ g 0] #[]),(Value.func (.func 93) #[zp_ g 0] #[]),(Value.func (.func 94) #[zp_ g 0] #[])]) d_ rfl ?_
  refine Zz 1 ?_
  refine i_ (cx_ (us:=[zp_ g 0]) (vs:=[]) rfl rfl) rfl (Zz 1 ?_)
  refine i_ (cx_ (us:=[zp_ g 0]) (vs:=[]) rfl rfl) rfl (Zz 1 ?_)
  refine i_ (cx_ (us:=[zp_ g 0]) (vs:=[]) rfl rfl) rfl (Zz 1 ?_)
  refine i_ (cx_ (us:=[zp_ g 0]) (vs:=[]) rfl rfl) rfl (Q_ bg_ eH_ Tryz.zeroValue75 rfl rfl rfl rfl rfl rfl fun b3=>?_)
  refine aJ_ (List.flatMap fvC [(Value.func (.func 95) #[zp_ g 0] #[]),(Value.func (.func 96) #[zp_ g 0] #[]),(Value.func (.func 97) #[zp_ g 0] #[]),(Value.func (.func 98) #[zp_ g 0] #[])]) d_ rfl ?_
  refine Zz 1 ?_
  refine i_ (cx_ (us:=[zp_ g 0]) (vs:=[]) rfl rfl) rfl (Zz 1 ?_)
  refine i_ (cx_ (us:=[zp_ g 0]) (vs:=[]) rfl rfl) rfl (Q_ bg_ eH_ Tryz.zeroValue75 rfl rfl rfl rfl rfl rfl fun b4=>?_)
  refine aJ_ (List.flatMap fvC [(Value.func (.func 99) #[zp_ g 0] #[]),(Value.func (.func 100) #[zp_ g 0] #[])]) d_ rfl ?_
  refine i_ (ol_ Tryz.zeroValue83 pN_ Tryz.sizeOf82 rfl rfl) rfl (A_ 0 Tryz.sizeOf83 rfl rfl rfl rfl rfl rfl (Zz 3 ?_))
  exact fk_ (b2,b3,b4) (fun aa v h1 h2=>db_ (us:=[.slice none 0 0,.slice (some ⟨b2,0,none⟩) (List.length [(Value.func (.func 89) #[zp_ g 0] #[]),(Value.func (.func 90) #[zp_ g 0] #[]),(Value.func (.func 91) #[zp_ g 0] #[]),(Value.func (.func 92) #[zp_ g 0] #[]),(Value.func (.func 93) #[zp_ g 0] #[]),(Value.func (.func 94) #[zp_ g 0] #[])]) 6,.slice (some ⟨b3,0,none⟩) (List.length [(Value.func (.func 95) #[zp_ g 0] #[]),(Value.func (.func 96) #[zp_ g 0] #[]),(Value.func (.func 97) #[zp_ g 0] #[]),(Value.func (.func 98) #[zp_ g 0] #[])]) 4,.slice (some ⟨b4,0,none⟩) (List.length [(Value.func (.func 99) #[zp_ g 0] #[]),(Value.func (.func 100) #[zp_ g 0] #[])]) 2]) 0 Tryz.results44 Tryz.isAgg83 Tryz.sizeOf83 rfl rfl rfl aa v h1 h2) m_ zf
end Go.Proofs.YtkeanlfhghlgiaaGreatDoor
namespace Go.Proofs.YtkeanlfhghlgiaaGreatDoor
open Go Go.Sx Go.Proofs
attribute [local irreducible] Code.wp wpList wpAnyH
open Go.Vs
theorem eL_ (B:EngB) (E:Emt Tryz.prog 24) (A0:EngA) (pm:List (Ky×Pc)) (x:Ix) (f:Fc) (nw fm:List Fc) (Hs:Hp) (hS:E.St nw fm Hs) (Ha Hu Ho Hi Hr Hm:Hp) (hI:IxO 9 24 B x ⟨Ha,Hu,Ho,Hi,Hr,Hm⟩) {n:FuncId} {args:Array Value} {ret:Hp→Prop} (hT:∀ A:EngA,A.p=A0.p→Tri Tryz.prog n args Hs [gF B E,pF B pm A,aF B x A,uF B x A,oF B x A,iF B x A,rF B x A,sF B x A,E.ef] (fun _:{H':Hp // ret H'}=>.tuple #[]) (fun y=>y.1) (fun _=>[])) :
    Tri Tryz.prog n args ((Ha++(Hu++(Ho++(Hi++(Hr++Hm)))))++Hs) [gF B E,pF B pm A0,E.ef] (fun _:{H':Hp // ret H'}=>.tuple #[]) (fun y=>(Ha++(Hu++(Ho++(Hi++(Hr++Hm)))))++y.1) (fun _=>[]):=by
  obtain⟨ha,hu,ho,hi,hr,hm⟩:=hI
  dsimp only at ha hu ho hi hr hm
  obtain⟨a1,k1⟩:=ha.lent (P:=Tryz.prog) dI_
  obtain⟨a2,k2⟩:=hu.lent (P:=Tryz.prog) dI_
  obtain⟨a3,k3⟩:=ho.lent (P:=Tryz.prog) cC_
  obtain⟨a4,k4⟩:=hi.lent (P:=Tryz.prog) cC_
  obtain⟨a5,k5⟩:=hr.lent (P:=Tryz.prog) cC_
  obtain⟨a6,k6⟩:=hm.lent (P:=Tryz.prog) cC_
  refine lT_ _ (hT ⟨A0.p,a1,a2,a3,a4,a5,a6⟩ rfl) fun v hB h=>⟨h.1,h.2.1,k1 v fun p hp=>hB p (by simp[hp]),k2 v fun p hp=>hB p (by simp[hp]),k3 v fun p hp=>hB p (by simp[hp]),k4 v fun p hp=>hB p (by simp[hp]),k5 v fun p hp=>hB p (by simp[hp]),k6 v fun p hp=>hB p (by simp[hp]),h.2.2.1,trivial⟩
theorem rl10_c (B:EngB) (E:Emt Tryz.prog 24) (A0:EngA) (pm:List (Ky×Pc)) (x:Ix) (f:Fc) (nw fm:List Fc) (Hs:Hp) (hS:E.St nw fm Hs) (Ha Hu Ho Hi Hr Hm:Hp) (hI:IxO 9 24 B x ⟨Ha,Hu,Ho,Hi,Hr,Hm⟩) (hpl:∀ k,(lat pm k).length≤1000000000) (hxl:∀ k,(lat x.above k).length≤1000000000∧(lat x.under k).length≤1000000000) (hyl:∀ k,(lat x.frm k).length≤1000000000∧(lat x.into k).length≤1000000000∧(lat x.ranges k).length≤1000000000∧(lat x.firms k).length≤1000000000) (hf:f.kind=3→-1099511627776≤f.lo∧f.lo≤f.hi∧f.hi≤1099511627776) (hq:f.kind=3→∀ y∈lat pm (Ky.mk 9 f.r []),-1099511627776≤y.lo∧y.lo≤y.hi∧y.hi≤1099511627776) (hk:f.kind=1):Tri Tryz.prog 89 #[zp_ B.g 0,f.val] ((Ha++(Hu++(Ho++(Hi++(Hr++Hm)))))++Hs) [gF B E,pF B pm A0,E.ef] (fun _:{H':Hp // E.St (rl E.stp E.kof pm x f 0 (nw,fm)).1 (rl E.stp E.kof pm x f 0 (nw,fm)).2 H'}=>.tuple #[]) (fun y=>(Ha++(Hu++(Ho++(Hi++(Hr++Hm)))))++y.1) (fun _=>[]):=by
  refine eL_ B E A0 pm x f nw fm Hs hS Ha Hu Ho Hi Hr Hm hI fun A hA=>?_
  have h:=oZ_ B E A pm x f nw fm Hs hS hpl hxl hyl
  have e:rl E.stp E.kof pm x f 0 (nw,fm)=_:=if_pos hk
  rw[e]
  exact h
theorem rl11_c (B:EngB) (E:Emt Tryz.prog 24) (A0:EngA) (pm:List (Ky×Pc)) (x:Ix) (f:Fc) (nw fm:List Fc) (Hs:Hp) (hS:E.St nw fm Hs) (Ha Hu Ho Hi Hr Hm:Hp) (hI:IxO 9 24 B x ⟨Ha,Hu,Ho,Hi,Hr,Hm⟩) (hpl:∀ k,(lat pm k).length≤1000000000) (hxl:∀ k,(lat x.above k).length≤1000000000∧(lat x.under k).length≤1000000000) (hyl:∀ k,(lat x.frm k).length≤1000000000∧(lat x.into k).length≤1000000000∧(lat x.ranges k).length≤1000000000∧(lat x.firms k).length≤1000000000) (hf:f.kind=3→-1099511627776≤f.lo∧f.lo≤f.hi∧f.hi≤1099511627776) (hq:f.kind=3→∀ y∈lat pm (Ky.mk 9 f.r []),-1099511627776≤y.lo∧y.lo≤y.hi∧y.hi≤1099511627776) (hk:f.kind=1):Tri Tryz.prog 90 #[zp_ B.g 0,f.val] ((Ha++(Hu++(Ho++(Hi++(Hr++Hm)))))++Hs) [gF B E,pF B pm A0,E.ef] (fun _:{H':Hp // E.St (rl E.stp E.kof pm x f 1 (nw,fm)).1 (rl E.stp E.kof pm x f 1 (nw,fm)).2 H'}=>.tuple #[]) (fun y=>(Ha++(Hu++(Ho++(Hi++(Hr++Hm)))))++y.1) (fun _=>[]):=by
  refine eL_ B E A0 pm x f nw fm Hs hS Ha Hu Ho Hi Hr Hm hI fun A hA=>?_
  have h:=both_c B E A pm x f nw fm Hs hS hpl hxl hyl
  have e:rl E.stp E.kof pm x f 1 (nw,fm)=_:=if_pos hk
  rw[e]
  exact h
theorem rl12_c (B:EngB) (E:Emt Tryz.prog 24) (A0:EngA) (pm:List (Ky×Pc)) (x:Ix) (f:Fc) (nw fm:List Fc) (Hs:Hp) (hS:E.St nw fm Hs) (Ha Hu Ho Hi Hr Hm:Hp) (hI:IxO 9 24 B x ⟨Ha,Hu,Ho,Hi,Hr,Hm⟩) (hpl:∀ k,(lat pm k).length≤1000000000) (hxl:∀ k,(lat x.above k).length≤1000000000∧(lat x.under k).length≤1000000000) (hyl:∀ k,(lat x.frm k).length≤1000000000∧(lat x.into k).length≤1000000000∧(lat x.ranges k).length≤1000000000∧(lat x.firms k).length≤1000000000) (hf:f.kind=3→-1099511627776≤f.lo∧f.lo≤f.hi∧f.hi≤1099511627776) (hq:f.kind=3→∀ y∈lat pm (Ky.mk 9 f.r []),-1099511627776≤y.lo∧y.lo≤y.hi∧y.hi≤1099511627776) (hk:f.kind=1):Tri Tryz.prog 91 #[zp_ B.g 0,f.val] ((Ha++(Hu++(Ho++(Hi++(Hr++Hm)))))++Hs) [gF B E,pF B pm A0,E.ef] (fun _:{H':Hp // E.St (rl E.stp E.kof pm x f 2 (nw,fm)).1 (rl E.stp E.kof pm x f 2 (nw,fm)).2 H'}=>.tuple #[]) (fun y=>(Ha++(Hu++(Ho++(Hi++(Hr++Hm)))))++y.1) (fun _=>[]):=by
  refine eL_ B E A0 pm x f nw fm Hs hS Ha Hu Ho Hi Hr Hm hI fun A hA=>?_
  have h:=some_c B E A pm x f nw fm Hs hS hpl hxl hyl
  have e:rl E.stp E.kof pm x f 2 (nw,fm)=_:=if_pos hk
  rw[e]
  exact h
theorem rl13_c (B:EngB) (E:Emt Tryz.prog 24) (A0:EngA) (pm:List (Ky×Pc)) (x:Ix) (f:Fc) (nw fm:List Fc) (Hs:Hp) (hS:E.St nw fm Hs) (Ha Hu Ho Hi Hr Hm:Hp) (hI:IxO 9 24 B x ⟨Ha,Hu,Ho,Hi,Hr,Hm⟩) (hpl:∀ k,(lat pm k).length≤1000000000) (hxl:∀ k,(lat x.above k).length≤1000000000∧(lat x.under k).length≤1000000000) (hyl:∀ k,(lat x.frm k).length≤1000000000∧(lat x.into k).length≤1000000000∧(lat x.ranges k).length≤1000000000∧(lat x.firms k).length≤1000000000) (hf:f.kind=3→-1099511627776≤f.lo∧f.lo≤f.hi∧f.hi≤1099511627776) (hq:f.kind=3→∀ y∈lat pm (Ky.mk 9 f.r []),-1099511627776≤y.lo∧y.lo≤y.hi∧y.hi≤1099511627776) (hk:f.kind=1):Tri Tryz.prog 92 #[zp_ B.g 0,f.val] ((Ha++(Hu++(Ho++(Hi++(Hr++Hm)))))++Hs) [gF B E,pF B pm A0,E.ef] (fun _:{H':Hp // E.St (rl E.stp E.kof pm x f 3 (nw,fm)).1 (rl E.stp E.kof pm x f 3 (nw,fm)).2 H'}=>.tuple #[]) (fun y=>(Ha++(Hu++(Ho++(Hi++(Hr++Hm)))))++y.1) (fun _=>[]):=by
  refine eL_ B E A0 pm x f nw fm Hs hS Ha Hu Ho Hi Hr Hm hI fun A hA=>?_
  have h:=nx_ B E A pm x f nw fm Hs hS hpl hxl hyl
  have e:rl E.stp E.kof pm x f 3 (nw,fm)=_:=if_pos hk
  rw[e]
  exact h
theorem rl14_c (B:EngB) (E:Emt Tryz.prog 24) (A0:EngA) (pm:List (Ky×Pc)) (x:Ix) (f:Fc) (nw fm:List Fc) (Hs:Hp) (hS:E.St nw fm Hs) (Ha Hu Ho Hi Hr Hm:Hp) (hI:IxO 9 24 B x ⟨Ha,Hu,Ho,Hi,Hr,Hm⟩) (hpl:∀ k,(lat pm k).length≤1000000000) (hxl:∀ k,(lat x.above k).length≤1000000000∧(lat x.under k).length≤1000000000) (hyl:∀ k,(lat x.frm k).length≤1000000000∧(lat x.into k).length≤1000000000∧(lat x.ranges k).length≤1000000000∧(lat x.firms k).length≤1000000000) (hf:f.kind=3→-1099511627776≤f.lo∧f.lo≤f.hi∧f.hi≤1099511627776) (hq:f.kind=3→∀ y∈lat pm (Ky.mk 9 f.r []),-1099511627776≤y.lo∧y.lo≤y.hi∧y.hi≤1099511627776) (hk:f.kind=1):Tri Tryz.prog 93 #[zp_ B.g 0,f.val] ((Ha++(Hu++(Ho++(Hi++(Hr++Hm)))))++Hs) [gF B E,pF B pm A0,E.ef] (fun _:{H':Hp // E.St (rl E.stp E.kof pm x f 4 (nw,fm)).1 (rl E.stp E.kof pm x f 4 (nw,fm)).2 H'}=>.tuple #[]) (fun y=>(Ha++(Hu++(Ho++(Hi++(Hr++Hm)))))++y.1) (fun _=>[]):=by
  refine eL_ B E A0 pm x f nw fm Hs hS Ha Hu Ho Hi Hr Hm hI fun A hA=>?_
  have h:=mI_ B E A pm x f nw fm Hs hS hpl hxl hyl
  have e:rl E.stp E.kof pm x f 4 (nw,fm)=_:=if_pos hk
  rw[e]
  exact h
theorem rl15_c (B:EngB) (E:Emt Tryz.prog 24) (A0:EngA) (pm:List (Ky×Pc)) (x:Ix) (f:Fc) (nw fm:List Fc) (Hs:Hp) (hS:E.St nw fm Hs) (Ha Hu Ho Hi Hr Hm:Hp) (hI:IxO 9 24 B x ⟨Ha,Hu,Ho,Hi,Hr,Hm⟩) (hpl:∀ k,(lat pm k).length≤1000000000) (hxl:∀ k,(lat x.above k).length≤1000000000∧(lat x.under k).length≤1000000000) (hyl:∀ k,(lat x.frm k).length≤1000000000∧(lat x.into k).length≤1000000000∧(lat x.ranges k).length≤1000000000∧(lat x.firms k).length≤1000000000) (hf:f.kind=3→-1099511627776≤f.lo∧f.lo≤f.hi∧f.hi≤1099511627776) (hq:f.kind=3→∀ y∈lat pm (Ky.mk 9 f.r []),-1099511627776≤y.lo∧y.lo≤y.hi∧y.hi≤1099511627776) (hk:f.kind=1):Tri Tryz.prog 94 #[zp_ B.g 0,f.val] ((Ha++(Hu++(Ho++(Hi++(Hr++Hm)))))++Hs) [gF B E,pF B pm A0,E.ef] (fun _:{H':Hp // E.St (rl E.stp E.kof pm x f 5 (nw,fm)).1 (rl E.stp E.kof pm x f 5 (nw,fm)).2 H'}=>.tuple #[]) (fun y=>(Ha++(Hu++(Ho++(Hi++(Hr++Hm)))))++y.1) (fun _=>[]):=by
  refine eL_ B E A0 pm x f nw fm Hs hS Ha Hu Ho Hi Hr Hm hI fun A hA=>?_
  have h:=ru_ B E A pm x f nw fm Hs hS hpl hxl hyl
  have e:rl E.stp E.kof pm x f 5 (nw,fm)=_:=if_pos hk
  rw[e]
  exact h
theorem rl20_c (B:EngB) (E:Emt Tryz.prog 24) (A0:EngA) (pm:List (Ky×Pc)) (x:Ix) (f:Fc) (nw fm:List Fc) (Hs:Hp) (hS:E.St nw fm Hs) (Ha Hu Ho Hi Hr Hm:Hp) (hI:IxO 9 24 B x ⟨Ha,Hu,Ho,Hi,Hr,Hm⟩) (hpl:∀ k,(lat pm k).length≤1000000000) (hxl:∀ k,(lat x.above k).length≤1000000000∧(lat x.under k).length≤1000000000) (hyl:∀ k,(lat x.frm k).length≤1000000000∧(lat x.into k).length≤1000000000∧(lat x.ranges k).length≤1000000000∧(lat x.firms k).length≤1000000000) (hf:f.kind=3→-1099511627776≤f.lo∧f.lo≤f.hi∧f.hi≤1099511627776) (hq:f.kind=3→∀ y∈lat pm (Ky.mk 9 f.r []),-1099511627776≤y.lo∧y.lo≤y.hi∧y.hi≤1099511627776) (hk:f.kind=2):Tri Tryz.prog 95 #[zp_ B.g 0,f.val] ((Ha++(Hu++(Ho++(Hi++(Hr++Hm)))))++Hs) [gF B E,pF B pm A0,E.ef] (fun _:{H':Hp // E.St (rl E.stp E.kof pm x f 0 (nw,fm)).1 (rl E.stp E.kof pm x f 0 (nw,fm)).2 H'}=>.tuple #[]) (fun y=>(Ha++(Hu++(Ho++(Hi++(Hr++Hm)))))++y.1) (fun _=>[]):=by
  refine eL_ B E A0 pm x f nw fm Hs hS Ha Hu Ho Hi Hr Hm hI fun A hA=>?_
  have h:=oR_ B E A pm x f nw fm Hs hS hpl hxl hyl
  have e:rl E.stp E.kof pm x f 0 (nw,fm)=_:=(if_neg (by rw[hk];decide)).trans (if_pos hk)
  rw[e]
  exact h
theorem rl21_c (B:EngB) (E:Emt Tryz.prog 24) (A0:EngA) (pm:List (Ky×Pc)) (x:Ix) (f:Fc) (nw fm:List Fc) (Hs:Hp) (hS:E.St nw fm Hs) (Ha Hu Ho Hi Hr Hm:Hp) (hI:IxO 9 24 B x ⟨Ha,Hu,Ho,Hi,Hr,Hm⟩) (hpl:∀ k,(lat pm k).length≤1000000000) (hxl:∀ k,(lat x.above k).length≤1000000000∧(lat x.under k).length≤1000000000) (hyl:∀ k,(lat x.frm k).length≤1000000000∧(lat x.into k).length≤1000000000∧(lat x.ranges k).length≤1000000000∧(lat x.firms k).length≤1000000000) (hf:f.kind=3→-1099511627776≤f.lo∧f.lo≤f.hi∧f.hi≤1099511627776) (hq:f.kind=3→∀ y∈lat pm (Ky.mk 9 f.r []),-1099511627776≤y.lo∧y.lo≤y.hi∧y.hi≤1099511627776) (hk:f.kind=2):Tri Tryz.prog 96 #[zp_ B.g 0,f.val] ((Ha++(Hu++(Ho++(Hi++(Hr++Hm)))))++Hs) [gF B E,pF B pm A0,E.ef] (fun _:{H':Hp // E.St (rl E.stp E.kof pm x f 1 (nw,fm)).1 (rl E.stp E.kof pm x f 1 (nw,fm)).2 H'}=>.tuple #[]) (fun y=>(Ha++(Hu++(Ho++(Hi++(Hr++Hm)))))++y.1) (fun _=>[]):=by
  refine eL_ B E A0 pm x f nw fm Hs hS Ha Hu Ho Hi Hr Hm hI fun A hA=>?_
  have h:=ss_ B E A pm x f nw fm Hs hS hpl hxl hyl
  have e:rl E.stp E.kof pm x f 1 (nw,fm)=_:=(if_neg (by rw[hk];decide)).trans (if_pos hk)
  rw[e]
  exact h
theorem rl22_c (B:EngB) (E:Emt Tryz.prog 24) (A0:EngA) (pm:List (Ky×Pc)) (x:Ix) (f:Fc) (nw fm:List Fc) (Hs:Hp) (hS:E.St nw fm Hs) (Ha Hu Ho Hi Hr Hm:Hp) (hI:IxO 9 24 B x ⟨Ha,Hu,Ho,Hi,Hr,Hm⟩) (hpl:∀ k,(lat pm k).length≤1000000000) (hxl:∀ k,(lat x.above k).length≤1000000000∧(lat x.under k).length≤1000000000) (hyl:∀ k,(lat x.frm k).length≤1000000000∧(lat x.into k).length≤1000000000∧(lat x.ranges k).length≤1000000000∧(lat x.firms k).length≤1000000000) (hf:f.kind=3→-1099511627776≤f.lo∧f.lo≤f.hi∧f.hi≤1099511627776) (hq:f.kind=3→∀ y∈lat pm (Ky.mk 9 f.r []),-1099511627776≤y.lo∧y.lo≤y.hi∧y.hi≤1099511627776) (hk:f.kind=2):Tri Tryz.prog 97 #[zp_ B.g 0,f.val] ((Ha++(Hu++(Ho++(Hi++(Hr++Hm)))))++Hs) [gF B E,pF B pm A0,E.ef] (fun _:{H':Hp // E.St (rl E.stp E.kof pm x f 2 (nw,fm)).1 (rl E.stp E.kof pm x f 2 (nw,fm)).2 H'}=>.tuple #[]) (fun y=>(Ha++(Hu++(Ho++(Hi++(Hr++Hm)))))++y.1) (fun _=>[]):=by
  refine eL_ B E A0 pm x f nw fm Hs hS Ha Hu Ho Hi Hr Hm hI fun A hA=>?_
  have h:=nw_ B E A pm x f nw fm Hs hS hpl hxl hyl
  have e:rl E.stp E.kof pm x f 2 (nw,fm)=_:=(if_neg (by rw[hk];decide)).trans (if_pos hk)
  rw[e]
  exact h
theorem rl23_c (B:EngB) (E:Emt Tryz.prog 24) (A0:EngA) (pm:List (Ky×Pc)) (x:Ix) (f:Fc) (nw fm:List Fc) (Hs:Hp) (hS:E.St nw fm Hs) (Ha Hu Ho Hi Hr Hm:Hp) (hI:IxO 9 24 B x ⟨Ha,Hu,Ho,Hi,Hr,Hm⟩) (hpl:∀ k,(lat pm k).length≤1000000000) (hxl:∀ k,(lat x.above k).length≤1000000000∧(lat x.under k).length≤1000000000) (hyl:∀ k,(lat x.frm k).length≤1000000000∧(lat x.into k).length≤1000000000∧(lat x.ranges k).length≤1000000000∧(lat x.firms k).length≤1000000000) (hf:f.kind=3→-1099511627776≤f.lo∧f.lo≤f.hi∧f.hi≤1099511627776) (hq:f.kind=3→∀ y∈lat pm (Ky.mk 9 f.r []),-1099511627776≤y.lo∧y.lo≤y.hi∧y.hi≤1099511627776) (hk:f.kind=2):Tri Tryz.prog 98 #[zp_ B.g 0,f.val] ((Ha++(Hu++(Ho++(Hi++(Hr++Hm)))))++Hs) [gF B E,pF B pm A0,E.ef] (fun _:{H':Hp // E.St (rl E.stp E.kof pm x f 3 (nw,fm)).1 (rl E.stp E.kof pm x f 3 (nw,fm)).2 H'}=>.tuple #[]) (fun y=>(Ha++(Hu++(Ho++(Hi++(Hr++Hm)))))++y.1) (fun _=>[]):=by
  refine eL_ B E A0 pm x f nw fm Hs hS Ha Hu Ho Hi Hr Hm hI fun A hA=>?_
  have h:=mH_ B E A pm x f nw fm Hs hS hpl hxl hyl
  have e:rl E.stp E.kof pm x f 3 (nw,fm)=_:=(if_neg (by rw[hk];decide)).trans (if_pos hk)
  rw[e]
  exact h
theorem rl30_c (B:EngB) (E:Emt Tryz.prog 24) (A0:EngA) (pm:List (Ky×Pc)) (x:Ix) (f:Fc) (nw fm:List Fc) (Hs:Hp) (hS:E.St nw fm Hs) (Ha Hu Ho Hi Hr Hm:Hp) (hI:IxO 9 24 B x ⟨Ha,Hu,Ho,Hi,Hr,Hm⟩) (hpl:∀ k,(lat pm k).length≤1000000000) (hxl:∀ k,(lat x.above k).length≤1000000000∧(lat x.under k).length≤1000000000) (hyl:∀ k,(lat x.frm k).length≤1000000000∧(lat x.into k).length≤1000000000∧(lat x.ranges k).length≤1000000000∧(lat x.firms k).length≤1000000000) (hf:f.kind=3→-1099511627776≤f.lo∧f.lo≤f.hi∧f.hi≤1099511627776) (hq:f.kind=3→∀ y∈lat pm (Ky.mk 9 f.r []),-1099511627776≤y.lo∧y.lo≤y.hi∧y.hi≤1099511627776) (hk:f.kind=3):Tri Tryz.prog 99 #[zp_ B.g 0,f.val] ((Ha++(Hu++(Ho++(Hi++(Hr++Hm)))))++Hs) [gF B E,pF B pm A0,E.ef] (fun _:{H':Hp // E.St (rl E.stp E.kof pm x f 0 (nw,fm)).1 (rl E.stp E.kof pm x f 0 (nw,fm)).2 H'}=>.tuple #[]) (fun y=>(Ha++(Hu++(Ho++(Hi++(Hr++Hm)))))++y.1) (fun _=>[]):=by
  refine eL_ B E A0 pm x f nw fm Hs hS Ha Hu Ho Hi Hr Hm hI fun A hA=>?_
  have h:=meet_c B E A pm x f nw fm Hs hS hpl hxl hyl
  have e:rl E.stp E.kof pm x f 0 (nw,fm)=_:=(if_neg (by rw[hk];decide)).trans (if_neg (by rw[hk];decide))
  rw[e]
  exact h
theorem rl31_c (B:EngB) (E:Emt Tryz.prog 24) (A0:EngA) (pm:List (Ky×Pc)) (x:Ix) (f:Fc) (nw fm:List Fc) (Hs:Hp) (hS:E.St nw fm Hs) (Ha Hu Ho Hi Hr Hm:Hp) (hI:IxO 9 24 B x ⟨Ha,Hu,Ho,Hi,Hr,Hm⟩) (hpl:∀ k,(lat pm k).length≤1000000000) (hxl:∀ k,(lat x.above k).length≤1000000000∧(lat x.under k).length≤1000000000) (hyl:∀ k,(lat x.frm k).length≤1000000000∧(lat x.into k).length≤1000000000∧(lat x.ranges k).length≤1000000000∧(lat x.firms k).length≤1000000000) (hf:f.kind=3→-1099511627776≤f.lo∧f.lo≤f.hi∧f.hi≤1099511627776) (hq:f.kind=3→∀ y∈lat pm (Ky.mk 9 f.r []),-1099511627776≤y.lo∧y.lo≤y.hi∧y.hi≤1099511627776) (hk:f.kind=3):Tri Tryz.prog 100 #[zp_ B.g 0,f.val] ((Ha++(Hu++(Ho++(Hi++(Hr++Hm)))))++Hs) [gF B E,pF B pm A0,E.ef] (fun _:{H':Hp // E.St (rl E.stp E.kof pm x f 1 (nw,fm)).1 (rl E.stp E.kof pm x f 1 (nw,fm)).2 H'}=>.tuple #[]) (fun y=>(Ha++(Hu++(Ho++(Hi++(Hr++Hm)))))++y.1) (fun _=>[]):=by
  refine eL_ B E A0 pm x f nw fm Hs hS Ha Hu Ho Hi Hr Hm hI fun A hA=>?_
  have h:=out_c B E A pm x f nw fm Hs hS hpl hxl hyl (hf hk) (hq hk)
  have e:rl E.stp E.kof pm x f 1 (nw,fm)=_:=(if_neg (by rw[hk];decide)).trans (if_neg (by rw[hk];decide))
  rw[e]
  exact h
end Go.Proofs.YtkeanlfhghlgiaaGreatDoor
namespace Go.Proofs.YtkeanlfhghlgiaaGreatDoor
open Go Go.Sx Go.Proofs
attribute [local irreducible] Code.wp wpList wpAnyH
open Go.Vs
section
variable {N:Nf} {v0:Vw} {H0:Hp} {fr:Fr}
theorem hT_ {k:Act→World→Prop} {F:Hp}:∀ (B:Hp) {H:Hp} {Γ:List Fct},H.Perm (B++F)→Ok N v0 H0 k fr F (B.reverse.map (fun p=>ef_ p.1 p.2)++Γ)→Ok N v0 H0 k fr H Γ
  | [],H,Γ,hH,h=>w_ hH h
  | (b,o)::B,H,Γ,hH,h=>by
    refine hc_ (ef_ b o) (F:=B++F) hH (fun _ h1 h2 _=>⟨h1,h2⟩) ?_
    refine hT_ B (.refl _) ?_
    simpa using h
end
end Go.Proofs.YtkeanlfhghlgiaaGreatDoor
namespace Go.Proofs.YtkeanlfhghlgiaaGreatDoor
open Go Go.Sx Go.Proofs
attribute [local irreducible] Code.wp wpList wpAnyH
open Go.Vs
theorem oU_ {P:Program} (w:World) (d:Nat) (t e:TypeId) (a:Option Addr) (l c:Nat) (h:P.underlying t=some (.slice e)):(Op.equalIn (d+1) t (.slice a l c) (.slice none 0 0)).run P w=.ok a.isNone w:=by
  cases a<;>simp[Op.equalIn,run_underlying h]
theorem sh_ {P:Program} (w:World) (t e:TypeId) (a:Option Addr) (l c:Nat) (h:P.underlying t=some (.slice e)):(Op.equal t (.slice a l c) (.slice none 0 0)).run P w=.ok a.isNone w:=oU_ w 9999 t e a l c h
theorem pn_ {P:Program} {N:Nf} {fr:Fr} {H:Hp} {Γ:List Fct} {ty t t' e:TypeId} {x y:Operand} {ad:Option Addr} {m c:Nat} (hu:P.underlying t=some (.slice e)) (hx:Fr.ev fr x=some (.slice ad m c)) (hy:Fr.ev fr y=some (.slice none 0 0)):Yld P N fr H Γ (.binOp .eql t x y t') ty (.bool (decide (ad=none))) :=
  fun a v h1 _ _ _ _ _=>by
    have he:decide (ad=none)=ad.isNone:=by cases ad<;>simp
    simp[execOp,h1.ev hx,h1.ev hy,eqGuard,binOp,sh_ v.w t e ad m c hu,he]
theorem pP_ {v:Vw} {cs:List Value} (h:by_ v none cs):cs=[]:=by
 rcases h with h|⟨b,off,arr,T,fz,h1,_⟩
 ·exact h
 cases h1
theorem jt_ (b:Nat) (e:TypeId) (sz:Nat):aE_ e sz (.slice (some ⟨b,0,none⟩) 0 0) 0 [] [(b,.cells #[] e (0,0))]:=⟨by simp,.inr ⟨b,0,#[],rfl,rfl,Nat.le_refl _,by simp[maxLen],by simp,by simp⟩⟩
theorem rc_ (l:List Str) (ad:Option Addr) (cap:Nat) (hc:l.length≤cap) (hl:l.length≤1000000000):Tri Tryz.prog 85 #[.slice ad (List.length l) cap] [] [aq_ ad (List.flatMap aS_ l)] (fun y:{y:Value×Hp // zR 9 1 aS_ y.1 l y.2}=>y.1.1) (fun y=>y.1.2) (fun _=>[]):=by
 refine u_ Tryz.func85 rfl rfl Tryz.ntmps85 rfl fun v0=>?_
 refine Zz 9 ?_
 refine aT_ (pn_ kA_ rfl rfl) rfl fun r1 hr1=>Zz 2 ?_
 cases r1
 ·replace hr1:=zdf hr1
  refine Zz 5 ?_
  refine fa_ B_ J_ rfl fun b1=>w_ d_ (Zz 1 ?_)
  refine cD_ (news:=List.flatMap aS_ l) cX_ (jt_ b1 9 1) rfl rfl (fun q=>absurd q hr1) hc bc_ (by rw[cT_ aS_ 1 au_]) zf (fun u hu=>ax_ cy_ hu) (by simp only[maxLen];omega) (by omega) rfl fun sv1 Hr1 hr1=>?_
  refine w_ List.perm_append_comm ?_
  have hq1:aE_ 9 1 sv1 (List.length (([]:List Str)++l)) (List.flatMap aS_ (([]:List Str)++l)) Hr1:=by rw[List.length_append,List.flatMap_append];exact hr1
  refine Zz 4 ?_
  exact al_ Tryz.results85 ⟨(sv1,Hr1),by simpa using hq1⟩ rfl bc_ zt
 replace hr1:=zdt hr1
 refine Zz 7 ?_
 refine co_ (p:=List.flatMap aS_ l=[]) (fun v _ h=>by have q:=h.1;subst hr1;exact pP_ q) fun hz=>?_
 have hz2:l=[]:=List.eq_nil_of_length_eq_zero (by have:=congrArg List.length hz;rwa [cT_ aS_ 1 au_,Nat.mul_one]at this)
 exact al_ Tryz.results85 ⟨(.slice none 0 0,[]),by subst hz2;exact aE_.nil _ _⟩ rfl m_ zt
def atS (p:List Pc):List Str:=Lib.compact ((dz_ p++[[42],[33]]).mergeSort fun x y=>decide (x≤y))
theorem lI_ (p:List Pc):(atS p).length≤3*p.length+2:=by
  have:=gO_ ((dz_ p++[[42],[33]]).mergeSort fun x y=>decide (x≤y))
  have h2:=ez_ p
  rw[List.length_mergeSort,List.length_append]at this
  simp only[List.length_cons,List.length_nil]at this
  unfold atS;omega
theorem lH_ (p:List Pc):(atS p).Pairwise fun x y=>x<y:=ke_ (lX_ _)
theorem eW_ (p:List Pc) (x:Str):x∈atS p↔x∈dz_ p∨x=[42]∨x=[33]:=by
  unfold atS
  rw[iI_,List.mem_mergeSort,List.mem_append]
  simp
theorem atS_c (p:List Pc) (pad:Option Addr) (pcap:Nat) (hp:p.length≤100000000):Tri Tryz.prog 42 #[.slice pad (List.length p) pcap] [] [aq_ pad (List.flatMap Pc.cells p)] (fun y:{y:Option Addr×Nat // (atS p).length≤y.2∧y.2≤maxLen∧(y.1=none→y.2=0)}=>.slice y.1.1 (atS p).length y.1.2) (fun _=>[]) (fun y=>[aq_ y.1.1 ((atS p).flatMap aS_)]):=by
  refine u_ Tryz.func42 rfl rfl Tryz.ntmps42 rfl fun v0=>?_
  refine Zz 8 ?_
  refine n_ (sv_ p pad pcap (by omega)) rfl m_ zf rfl fun⟨⟨aad,acap⟩,hac,ham⟩=>?_
  dsimp only
  refine n_ (rc_ (dz_ p) aad acap hac (by have:=ez_ p;omega)) rfl m_ zf rfl fun⟨⟨svc,Hcl⟩,hcl⟩=>?_
  dsimp only
  refine w_ eR_ (Q_ B_ J_ aW_ rfl rfl rfl rfl rfl rfl fun b1=>?_)
  refine ak_ (news:=List.flatMap aS_ [[42],[33]]) cX_ hcl rfl rfl K_ rfl (bq_ 0 rfl) (fun u hu=>ax_ cy_ hu) (by simp only[maxLen];(have:=ez_ p;(try simp only[List.length_append,List.length_cons,List.length_nil]);omega)) (by (have:=ez_ p;(try simp only[List.length_append,List.length_cons,List.length_nil]);omega)) rfl fun sv1 Hr1 hr1=>?_
  refine w_ List.perm_append_comm ?_
  have hq1:=zsa hr1
  refine Zz 6 ?_
  refine n_ (nH_ hq1 (by (have:=ez_ p;(try simp only[List.length_append,List.length_cons,List.length_nil]);omega))) rfl K_ zt rfl fun⟨Hso1,hs1⟩=>?_
  dsimp only
  have hso1:aE_ 9 1 sv1 (List.length ((((dz_ p)++[[42],[33]])).mergeSort fun x y=>decide (x≤y))) (List.flatMap aS_ ((((dz_ p)++[[42],[33]])).mergeSort fun x y=>decide (x≤y))) Hso1:=by rw[List.length_mergeSort];exact hs1
  refine Zz 2 ?_
  refine w_ (an_ Y_) (Zz 3 ?_)
  refine n_ (kf_ hso1 (by rw[List.length_mergeSort];(have:=ez_ p;(try simp only[List.length_append,List.length_cons,List.length_nil]);omega))) rfl K_ zt rfl fun⟨⟨svk2,Hk2⟩,hk2⟩=>?_
  dsimp only
  refine Zz 4 ?_
  refine bY_ hk2 j_ fun ad2 cp2 had2 hcad2 hmad2 hzad2=>?_
  exact al_ Tryz.results42 ⟨(ad2,cp2),hcad2,hmad2,hzad2⟩ (dq_ rfl had2) m_ zf
end Go.Proofs.YtkeanlfhghlgiaaGreatDoor
namespace Go.Proofs
open Go.Shelf
def Tryz.sortFc_ren:Go.Shelf.Ren:=⟨fun|6=>46|15=>102|14=>101|28=>134|29=>135|20=>126|21=>127|22=>128|23=>129|24=>130|25=>131|26=>132|27=>133|46=>166|47=>167|48=>168|49=>169|50=>170|57=>187|n=>n,fun|22=>37|24=>24|25=>86|3=>3|39=>131|0=>0|53=>158|55=>160|4=>4|46=>152|45=>151|50=>115|5=>5|9=>9|66=>179|70=>183|76=>195|77=>196|n=>n,fun|n=>n⟩
theorem Tryz.sortFc:Go.Proofs.SlLaysF0.n6 Tryz.prog Tryz.sortFc_ren:={
  mixed:=by kernel_rfl
  f6:=⟨Tryz.f46.name,by decide,Tryz.func46.trans (congrArg some (by kernel_rfl))⟩
  f14:=⟨Tryz.f101.name,by decide,Tryz.func101.trans (congrArg some (by kernel_rfl))⟩
  f15:=Tryz.func102.trans (congrArg some (by kernel_rfl))
  f20:=⟨Tryz.f126.name,by decide,Tryz.func126.trans (congrArg some (by kernel_rfl))⟩
  f21:=⟨Tryz.f127.name,by decide,Tryz.func127.trans (congrArg some (by kernel_rfl))⟩
  f22:=⟨Tryz.f128.name,by decide,Tryz.func128.trans (congrArg some (by kernel_rfl))⟩
  f23:=⟨Tryz.f129.name,by decide,Tryz.func129.trans (congrArg some (by kernel_rfl))⟩
  f24:=⟨Tryz.f130.name,by decide,Tryz.func130.trans (congrArg some (by kernel_rfl))⟩
  f25:=⟨Tryz.f131.name,by decide,Tryz.func131.trans (congrArg some (by kernel_rfl))⟩
  f26:=⟨Tryz.f132.name,by decide,Tryz.func132.trans (congrArg some (by kernel_rfl))⟩
  f27:=⟨Tryz.f133.name,by decide,Tryz.func133.trans (congrArg some (by kernel_rfl))⟩
  f28:=Tryz.func134.trans (congrArg some (by kernel_rfl))
  f29:=Tryz.func135.trans (congrArg some (by kernel_rfl))
  f46:=⟨Tryz.f166.name,by decide,Tryz.func166.trans (congrArg some (by kernel_rfl))⟩
  f47:=Tryz.func167.trans (congrArg some (by kernel_rfl))
  f48:=Tryz.func168.trans (congrArg some (by kernel_rfl))
  f49:=⟨Tryz.f169.name,by decide,Tryz.func169.trans (congrArg some (by kernel_rfl))⟩
  f50:=⟨Tryz.f170.name,by decide,Tryz.func170.trans (congrArg some (by kernel_rfl))⟩
  f57:=⟨Tryz.f187.name,by decide,Tryz.func187.trans (congrArg some (by kernel_rfl))⟩
  t0:=Tryz.underlying0
  a0:=Tryz.isAgg0
  z0:=Tryz.sizeOf0
  v0:=Tryz.zeroValue0
  t3:=Tryz.underlying3
  a3:=Tryz.isAgg3
  z3:=Tryz.sizeOf3
  v3:=Tryz.zeroValue3
  t4:=Tryz.underlying4
  a4:=Tryz.isAgg4
  z4:=Tryz.sizeOf4
  v4:=Tryz.zeroValue4
  t5:=Tryz.underlying5
  a5:=Tryz.isAgg5
  z5:=Tryz.sizeOf5
  v5:=Tryz.zeroValue5
  t9:=Tryz.underlying9
  a9:=Tryz.isAgg9
  z9:=Tryz.sizeOf9
  v9:=Tryz.zeroValue9
  t22:=Tryz.underlying37
  a22:=Tryz.isAgg37
  z22:=Tryz.sizeOf37
  v22:=Tryz.zeroValue37
  t25:=Tryz.underlying86
  a25:=Tryz.isAgg86
  z25:=Tryz.sizeOf86
  v25:=Tryz.zeroValue86
  t39:=Tryz.underlying131
  a39:=Tryz.isAgg131
  z39:=Tryz.sizeOf131
  v39:=Tryz.zeroValue131
  t45:=Tryz.underlying151
  a45:=Tryz.isAgg151
  z45:=Tryz.sizeOf151
  v45:=Tryz.zeroValue151
  t46:=Tryz.underlying152
  a46:=Tryz.isAgg152
  z46:=Tryz.sizeOf152
  v46:=Tryz.zeroValue152
  t50:=Tryz.underlying115
  a50:=Tryz.isAgg115
  z50:=Tryz.sizeOf115
  v50:=Tryz.zeroValue115
  t53:=Tryz.underlying158
  a53:=Tryz.isAgg158
  z53:=Tryz.sizeOf158
  v53:=Tryz.zeroValue158
  t55:=Tryz.underlying160
  a55:=Tryz.isAgg160
  z55:=Tryz.sizeOf160
  v55:=Tryz.zeroValue160
  t66:=Tryz.underlying179
  a66:=Tryz.isAgg179
  z66:=Tryz.sizeOf179
  v66:=Tryz.zeroValue179
  t70:=Tryz.underlying183
  a70:=Tryz.isAgg183
  z70:=Tryz.sizeOf183
  v70:=Tryz.zeroValue183
  t76:=Tryz.underlying195
  a76:=Tryz.isAgg195
  z76:=Tryz.sizeOf195
  v76:=Tryz.zeroValue195
  t77:=Tryz.underlying196
  a77:=Tryz.isAgg196
  z77:=Tryz.sizeOf196
  v77:=Tryz.zeroValue196 }
end Go.Proofs
namespace Go.Proofs.YtkeanlfhghlgiaaGreatDoor
open Go Go.Sx Go.Proofs
attribute [local irreducible] Code.wp wpList wpAnyH
open Go.Vs
instance:Inhabited Fc:=⟨⟨0,[],[],[],0,0⟩⟩
theorem kh_ (x y:Int):Fn0 Tryz.prog 104 #[.int .i64 x,.int .i64 y] (.int .i64 (Lib.compareInt x y)) :=
  eg_ (callable Tryz.func104 rfl rfl) fun v _ _=>(Tryz.cmp_Compare_int x y v.w).mono (by rintro e w' ⟨rfl,rfl⟩;exact⟨rfl,⟨rfl,rfl,rfl,Nat.le_refl _,fun _ _=>rfl⟩,.inr (Nat.le_refl _)⟩)
theorem kg_ (x y:Str):Fn0 Tryz.prog 105 #[str x,str y] (.int .i64 (Lib.compareBytes x y)) :=
  eg_ (callable Tryz.func105 rfl rfl) fun v _ _=>(Tryz.strings_Compare ⟨x.toArray⟩ ⟨y.toArray⟩ v.w).mono (by rintro e w' ⟨rfl,rfl⟩;exact⟨rfl,⟨rfl,rfl,rfl,Nat.le_refl _,fun _ _=>rfl⟩,.inr (Nat.le_refl _)⟩)
def orF:List Int→Int
  | []=>0
  | x::l=>if x=0 then orF l else x
theorem qh_:∀ {l:List Int} {i:Nat} {x:Int},(∀ y∈l.take i,y=0)→l[i]? = some x→x≠0→orF l=x
  | [],_,_,_,h,_=>by simp at h
  | y::l,0,x,_,h,hx=>by simp at h;subst h;simp[orF,hx]
  | y::l,i+1,x,h0,h,hx=>by
    have hy:y=0:=h0 y (by simp)
    rw[orF,if_pos hy]
    exact qh_ (i:=i) (fun z hz=>h0 z (by rw[List.take_succ_cons];exact List.mem_cons_of_mem _ hz)) (by simpa using h) hx
theorem mk_:∀ {l:List Int},(∀ y∈l,y=0)→orF l=0
  | [],_=>rfl
  | y::l,h=>by rw[orF,if_pos (h y (by simp))];exact mk_ fun z hz=>h z (by simp[hz])
theorem cI_neg (x y:Int):Lib.compareInt x y<0↔x<y:=by unfold Lib.compareInt;(repeat' split)<;>omega
theorem st_ (x y:Int):Lib.compareInt x y=0↔x=y:=by unfold Lib.compareInt;(repeat' split)<;>omega
theorem rd_:∀ (x y:Str),Lib.compareBytes x y<0↔x<y
 | [],[]=>by simp[Lib.compareBytes]
 | [],b::y=>by simp[Lib.compareBytes]
 | a::x,[]=>by simp[Lib.compareBytes]
 | a::x,b::y=>by
   rw[Lib.compareBytes,List.cons_lt_cons_iff]
   by_cases h1:a<b
   · rw[if_pos h1];simp[h1]
   · by_cases h2:b<a
     · rw[if_neg h1,if_pos h2]
       have:a≠b:=fun e=>by subst e;exact h1 h2
       simp[h1,this]
     · have e:a=b:=UInt8.le_antisymm (UInt8.not_lt.1 h2) (UInt8.not_lt.1 h1)
       rw[if_neg h1,if_neg h2,rd_ x y];simp[e]
theorem oh_:∀ (x y:Str),Lib.compareBytes x y=0↔x=y
 | [],[]=>by simp[Lib.compareBytes]
 | [],b::y=>by simp[Lib.compareBytes]
 | a::x,[]=>by simp[Lib.compareBytes]
 | a::x,b::y=>by
   rw[Lib.compareBytes]
   by_cases h1:a<b
   · rw[if_pos h1]
     have:a≠b:=fun e=>by subst e;exact absurd h1 (UInt8.lt_irrefl a)
     simp[this]
   · by_cases h2:b<a
     · rw[if_neg h1,if_pos h2]
       have:a≠b:=fun e=>by subst e;exact h1 h2
       simp[this]
     · have e:a=b:=UInt8.le_antisymm (UInt8.not_lt.1 h2) (UInt8.not_lt.1 h1)
       rw[if_neg h1,if_neg h2,oh_ x y];simp[e]
def iR_ (x y:Fc):Int:=orF [Lib.compareInt x.kind y.kind,Lib.compareBytes x.a y.a,Lib.compareBytes x.b y.b,Lib.compareBytes x.r y.r,Lib.compareInt x.lo y.lo,Lib.compareInt x.hi y.hi]
theorem hb_ (x:Int) (l:List Int):orF (x::l)<0↔x<0∨x=0∧orF l<0:=by
  rw[orF];split<;>omega
theorem rb_ (x y:Fc):iR_ x y<0↔x.lt y:=by
  unfold iR_ Fc.lt
  rw[hb_,hb_,hb_,hb_,hb_,hb_]
  simp only[cI_neg,st_,rd_,oh_,orF,Int.lt_irrefl,and_false,or_false]
theorem orF_c (l:List Int) (ad:Option Addr) (cap:Nat) (hl:l.length≤1000):Tri Tryz.prog 103 #[.slice ad (List.length l) cap] [] [aq_ ad (List.flatMap ae_ l)] (fun _:Unit=>.int .i64 (orF l)) (fun _=>[]) (fun _=>[]):=by
 refine u_ Tryz.func103 rfl rfl Tryz.ntmps103 rfl fun v0=>?_
 refine Zz 19 ?_
 refine X_ (ι:={y:Nat // y≤l.length∧∀ z∈l.take y,z=0}) (fun y=>[(3,.int .i64 0),(6,.slice ad (List.length l) cap),(7,.int .i64 (List.length l:Int)),(8,.int .i64 (y.1:Int))]) (fun y=>([])) (fun y=>[aq_ ad (List.flatMap ae_ l)]) (fun y=>l.length - y.1) ⟨(0:Nat),by simp,by simp⟩ zl m_ zh ?_
 rintro ⟨i,hi,h0⟩
 dsimp only at hi h0 ⊢
 refine Zi 2 (fun hr1=>?_) fun hr1=>?_
 ·refine Zz 13 ?_
  exact al_ Tryz.results103 () (cs_ rfl (mk_ fun y hy=>h0 y (by rw[List.take_of_length_le (by omega)];exact hy)).symm) m_ zt
 obtain⟨hlx1,x1,hx1,hmx1⟩:=zge (show i<List.length l by omega)
 refine Zi 19 (fun hr2=>?_) fun hr2=>?_
 ·refine Zz 10 ?_
  exact C_ ⟨i+1,hlx1,fun y hy=>by rw[List.take_add_one,hx1]at hy;simp only[Option.toList_some,List.mem_append,List.mem_singleton]at hy;rcases hy with hy|rfl;exact h0 y hy;omega⟩ (by dsimp only;omega) zl m_ zh
 refine Zz 10 ?_
 exact al_ Tryz.results103 () (cs_ rfl (qh_ h0 hx1 (by assumption)).symm) m_ zt
theorem cmpF_c (x y:Fc):Fn0 Tryz.prog 47 #[Fc.val x,Fc.val y] (.int .i64 (iR_ x y)):=by
  refine u_ Tryz.func47 rfl rfl Tryz.ntmps47 rfl fun v0=>?_
  refine Zz 2 ?_
  refine aA_ rfl rfl fun b1=>aA_ rfl rfl fun b2=>Zz 5 ?_
  refine q_ 9 [0,1,2,3,5,6,7,8,10,11,12,13,15,16,17,18,20,21,22,23,25,26,27,28] zk zs (Zz 25 ?_)
  refine l_ 4 rfl zk (n_ (kh_ x.kind y.kind) rfl m_ zt rfl fun _=>Zz 3 ?_)
  refine l_ 9 rfl zk (n_ (kg_ x.a y.a) rfl m_ zt rfl fun _=>Zz 3 ?_)
  refine l_ 14 rfl zk (n_ (kg_ x.b y.b) rfl m_ zt rfl fun _=>Zz 3 ?_)
  refine l_ 19 rfl zk (n_ (kg_ x.r y.r) rfl m_ zt rfl fun _=>Zz 3 ?_)
  refine l_ 24 rfl zk (n_ (kh_ x.lo y.lo) rfl m_ zt rfl fun _=>Zz 3 ?_)
  refine l_ 29 rfl zk (n_ (kh_ x.hi y.hi) rfl m_ zt rfl fun _=>Zz 3 ?_)
  refine l_ 30 rfl zk (Q_ g_ s_ D_ rfl rfl rfl rfl rfl rfl fun b3=>?_)
  refine aJ_ (List.flatMap ae_ [(Lib.compareInt x.kind y.kind),(Lib.compareBytes x.a y.a),(Lib.compareBytes x.b y.b),(Lib.compareBytes x.r y.r),(Lib.compareInt x.lo y.lo),(Lib.compareInt x.hi y.hi)]) d_ rfl ?_
  refine Zz 3 ?_
  refine l_ 31 rfl zk (n_ (orF_c [(Lib.compareInt x.kind y.kind),(Lib.compareBytes x.a y.a),(Lib.compareBytes x.b y.b),(Lib.compareBytes x.r y.r),(Lib.compareInt x.lo y.lo),(Lib.compareInt x.hi y.hi)] (some ⟨b3,0,none⟩) 6 (by simp)) rfl m_ zf rfl fun _=>Zz 3 ?_)
  refine q_ 0 [32] zk zs (Zz 5 ?_)
  exact al_ Tryz.results47 () (cs_ rfl (by rfl)) m_ zt
end Go.Proofs.YtkeanlfhghlgiaaGreatDoor
namespace Go.Proofs.YtkeanlfhghlgiaaGreatDoor
open Go Go.Sx Go.Proofs
attribute [local irreducible] Code.wp wpList wpAnyH
open Go.Vs
structure Cl where
  atoms:List Str
  aad:Option Addr
  acap:Nat
  facts:List Fc
  fad:Option Addr
  fcap:Nat
def Cl.cells (c:Cl):List Value:=[.slice c.aad c.atoms.length c.acap,.slice c.fad c.facts.length c.fcap]
theorem Cl.cells_len (c:Cl):c.cells.length=2:=rfl
def Cl.val (c:Cl):Value:=.agg c.cells.toArray
def Cl.row (c:Cl):List Fct:=[aq_ c.aad (List.flatMap aS_ c.atoms),aq_ c.fad (List.flatMap Fc.cells c.facts)]
def Cl.no:Cl:=Cl.mk [] none 0 [] none 0
structure Cl.ok (c:Cl):Prop where
  al:c.atoms.length≤c.acap
  am:c.acap≤maxLen
  az:c.aad=none→c.acap=0
  fl:c.facts.length≤c.fcap
  fm:c.fcap≤maxLen
  fz:c.fad=none→c.fcap=0
theorem Cl.no_ok:Cl.no.ok:=⟨Nat.le_refl _,by simp[Cl.no],fun _=>rfl,Nat.le_refl _,by simp[Cl.no],fun _=>rfl⟩
theorem rI_ {s:Str} (h:dn_ s=true):s≠[]:=fun e=>by subst e;revert h;decide
theorem oB_ {s:Str} (h:cd_ s=true):s≠[]:=fun e=>by subst e;revert h;decide
theorem gY_ {p:Pc} (h:p.valid=true):p.vok:=by
 unfold Pc.valid at h
 split at h
 ·simp at h
 rename_i h1
 split at h
 ·simp at h
 rename_i h2
 split at h
 ·simp at h
 have hk:p.kind=1∨p.kind=2∨p.kind=3∨p.kind=4∨p.kind=5∨p.kind=6∨p.kind=7∨p.kind=8∨p.kind=9:=by omega
 have hn:∀ {b:Bool} {s:Str},ch_ b s dn_=true→b=true→s≠[]:=fun h1 h2=>by
   subst h2;simp[ch_]at h1;exact rI_ h1
 have hn':∀ {b:Bool} {s:Str},ch_ b s cd_=true→b=true→s≠[]:=fun h1 h2=>by
   subst h2;simp[ch_]at h1;exact oB_ h1
 simp only[Bool.and_eq_true]at h
 obtain⟨⟨⟨⟨⟨_,_⟩,_⟩,hr⟩,hs⟩,ht⟩:=h
 unfold Pc.rok at *
 refine⟨⟨fun q=>?_,fun q=>?_,fun q=>?_⟩,fun q=>?_⟩
 ·rcases q with q|q|q|q|q|q|q<;>rw[q]at hr
  ·exact hn hr (by decide)
  ·exact hn hr (by decide)
  ·exact hn hr (by decide)
  ·exact hn' hr (by decide)
  ·exact hn hr (by decide)
  ·exact hn hr (by decide)
  exact hn' hr (by decide)
 ·rw[q]at hs ht;exact⟨hn hs (by decide),hn ht (by decide)⟩
 ·rw[q]at ht;exact hn ht (by decide)
 rcases q with q|q<;>rw[q]at h2<;>have:(nus 8).numbers=true∧(nus 9).numbers=true:=by decide
 all_goals simp only[this.1,this.2,true_and]at h2;omega
theorem mN_ {p:List Pc} (h:cq_ p=0):p.length≤16384∧p.all Pc.valid=true:=by
 unfold cq_ at h
 split at h
 ·simp at h
 split at h
 ·exact⟨by omega,by assumption⟩
 simp at h
theorem lc_ {p:List Pc} (h:cq_ p=0):∀ x∈p,x.vok:=fun x hx=>gY_ (List.all_eq_true.1 (mN_ h).2 x hx)
section
variable {P:Program} {N:Nf} {v0:Vw} {H0:Hp} {fr:Fr} {H F Ha Hu Ho Hi Hr Hm Hs:Hp} {Γ:List Fct}
theorem dm_ {fn:Func} {t s b n:Nat} {ty T:TypeId} {us:List Value} {u:Value} (i:Nat) (hr:fn.results=#[.cell t ty,.tmp s]) (ha:∀ w,(isAgg ty).run P w=.ok true w) (hs:∀ w,(sizeOf ty).run P w=.ok n w) (hn:us.length=n) (hx:Fr.get fr t=some (zp_ b 0)) (hu:Fr.get fr s=some u)
    (hi:H[i]? = some (b,.cells us.toArray T (0,0))) (a:Act) (v:Vw) (h1:Fr.sat N fr a) (h2:v.sat H):(results fn a.tmps).run P v.w=.ok (.tuple #[.agg us.toArray,u]) v.w:=by
  have e:=h1.val t _ hx
  have e2:=h1.val s _ hu
  have hl:=dg_ (t:=ty) (w:=v.w) (b:=b) (off:=0) ha hs hn (fun j y hj=>by rw[Nat.zero_add,gF_ h2 hi];simpa using hj)
  simp[results,hr,e,e2,asAddr,hl]
theorem ni_ (h:H.Perm ((Ha++(Hu++(Ho++(Hi++(Hr++(Hm++Hs))))))++F)):H.Perm (((Ha++(Hu++(Ho++(Hi++(Hr++Hm)))))++Hs)++F):=by simpa [List.append_assoc] using h
theorem lm_:(((Ha++(Hu++(Ho++(Hi++(Hr++Hm)))))++Hs)++F).Perm (Ha++(Hu++(Ho++(Hi++(Hr++(Hm++(Hs++F))))))):=by simp[List.append_assoc]
theorem rN_ {a b c:Nat×Obj} {Hq:Hp}:((Ha++(Hu++(Ho++(Hi++(Hr++(Hm++(a::b::([c]++Hq))))))))++F).Perm (Ha++(Hu++(Ho++(Hi++(Hr++(Hm++(a::b::([c]++(Hq++F))))))))):=by simp[List.append_assoc]
end
theorem eJ_:iy_ Tryz.prog 39 [(0,1),(1,1)] [.slice none 0 0,.slice none 0 0]:=⟨_,Tryz.zeroValue39,cA_,fun w=>by simp[sF_,Tryz.sizeOf37]⟩
end Go.Proofs.YtkeanlfhghlgiaaGreatDoor
namespace Go.Proofs.YtkeanlfhghlgiaaGreatDoor
open Go Go.Sx Go.Proofs
attribute [local irreducible] Code.wp wpList wpAnyH
open Go.Vs Go.Shelf Go.RowKit
theorem lP_ {v v':Vw} (h:v.to [] v' []) (hs:¬ v.sl):∃ q os,v'.w=Sort.grow (v.w.drewN q) os:=by
 have hd:v.w.drawn≤v'.w.drawn:=h.dr.resolve_left hs
 refine⟨v'.w.drawn - v.w.drawn,v'.w.heap.extract v.w.heap.size v'.w.heap.size,?_⟩
 have hh:v'.w.heap=v.w.heap++v'.w.heap.extract v.w.heap.size v'.w.heap.size:=by
   apply Array.ext_getElem?
   intro i
   have hsz:=h.size
   rw[Array.getElem?_append]
   split
   · rename_i hi;exact h.block i hi (by simp)
   · rename_i hi
     rw[Array.getElem?_extract]
     split
     · congr 1;omega
     · rw[Array.getElem?_eq_none (by omega)]
 have e1:=h.os;have e2:=h.tape;have e3:=h.output
 obtain⟨im',⟨hp,tp,dn,os',ou⟩,sl'⟩:=v'
 simp only at e1 e2 e3 hh hd
 simp only[Sort.grow,World.drewN,World.mk.injEq]
 exact⟨hh,e2,by omega,e1,e3⟩
theorem sq_ (blk off size:Nat) (w:World):CmpLays Tryz.prog 47 #[] Fc.cells 6 iR_ blk off size w:=fun m os dk _ x y=>by
  have h:=(cmpF_c x y).run ⟨fun _=>False,sortWorldK Fc.cells 6 w blk off m dk os,False⟩ ⟨by simp,by simp,fun _ h=>h.elim⟩ trivial
  refine h.mono ?_
  rintro e w' ⟨_,v',rfl,rfl,_,_,ht⟩
  obtain⟨q,os',hw⟩:=lP_ ht (fun h=>h)
  exact⟨rfl,q,os',hw⟩
theorem ltF (x y:Fc):ltOf iR_ x y=decide (x.lt y):=by unfold ltOf;rw[decide_eq_decide];exact rb_ x y
theorem swoF:Sort.SWO (ltOf iR_) where
 irrefl x:=by rw[ltF];exact decide_eq_false x.lt_irr
 trans x y z h1 h2:=by rw[ltF,decide_eq_true_eq]at *;exact Fc.lt_trans h1 h2
 ntrans x y z h1 h2:=by
   rw[ltF,decide_eq_false_iff_not]at *
   intro h
   rcases Fc.lt_tri x y with g|g|g
   · exact h1 g
   · subst g;exact h2 h
   · exact h2 (Fc.lt_trans g h)
theorem totF (x y:Fc) (h1:ltOf iR_ x y=false) (h2:ltOf iR_ y x=false):x=y:=by
 rw[ltF,decide_eq_false_iff_not]at h1 h2
 rcases Fc.lt_tri x y with g|g|g
 ·exact absurd g h1
 ·exact g
 exact absurd g h2
theorem jX_ (xs:List Fc):Sort.flatK Fc.cells 6 xs.toArray=(xs.flatMap Fc.cells).toArray:=by
 apply Array.ext_getElem?
 intro t
 have e0:(xs.flatMap Fc.cells).toArray[t]? = (xs.flatMap Fc.cells)[t]? := by simp
 rw[e0]
 by_cases ht:t<xs.length*6
 ·have hd:t / 6<xs.length:=by omega
  have:=lA_ Fc.cells 6 Fc.cells_len xs (t / 6) (t%6) xs[t / 6] (List.getElem?_eq_getElem hd) (Nat.mod_lt _ (by decide))
  rw[show t / 6*6+t%6=t by omega]at this
  rw[this]
  simp only[Sort.flatK,Array.getElem?_map,List.size_toArray]
  rw[Array.getElem?_eq_getElem (by simpa using ht)]
  simp only[Array.getElem_range,Option.map_some]
  rw[getElem!_pos xs.toArray (t / 6) (by simpa using hd)]
  have hl:t%6<(Fc.cells xs[t / 6]).length:=by rw[Fc.cells_len];omega
  rw[List.getElem?_eq_getElem hl]
  simp only[List.getElem_toArray]
  rw[getElem!_pos (Fc.cells xs[t / 6]) (t%6) hl]
 rw[List.getElem?_eq_none (by rw[cT_ Fc.cells 6 Fc.cells_len];omega),Array.getElem?_eq_none (by simp[Sort.flatK];omega)]
theorem lS_ {P:Program} {Γ:List Fct} {f:FuncId} {args:Array Value} {r:Value} {g:Nat} {cur:Array Value} {T:TypeId} {d:Array Value} (hc:dR_ P f)
    (h:∀ v:Vw,v.sat [(g,.cells cur T (0,0))]→Calls P f args v.w fun e w'=>e=.returned r∧∃ n os,w'=Sort.grow (Sort.putRow id (Sort.ahead v.w n) g 0 d) os) :
    Tri P f args [(g,.cells cur T (0,0))] Γ (fun _:Unit=>r) (fun _=>[(g,.cells (Sort.putCells id 0 d cur) T (0,0))]) (fun _=>[]) :=
  ⟨hc,fun v h1 _=>(h v h1).mono fun e w' ⟨he,n,os,hw⟩=>by
    have hg:=(h1.own _ List.mem_cons_self)
    have hlt:g<v.w.heap.size:=(Array.getElem?_eq_some_iff.1 hg.1).1
    have hb:∀ b,b<v.w.heap.size→w'.heap[b]? = if b=g then some (.cells (Sort.putCells id 0 d cur) T (0,0)) else v.w.heap[b]? := fun b hb=>by
      rw[hw]
      simp only[Sort.grow,Sort.putRow,Sort.mapBlock,Sort.ahead]
      rw[Array.getElem?_append_left (by simpa using hb),Array.getElem?_modify]
      by_cases e:b=g
      · subst e
        simp only[if_true,hg.1,Option.map_some,Sort.onCells]
      · rw[if_neg (fun q=>e q.symm),if_neg e]
    have hsz:v.w.heap.size≤w'.heap.size:=by rw[hw];simp[Sort.grow,Sort.putRow,Sort.mapBlock,Sort.ahead]
    refine⟨(),⟨v.im,w',v.sl⟩,he,rfl,⟨fun p hp=>?_,by simp,fun b hbb=>Nat.lt_of_lt_of_le (h1.lt b hbb) hsz⟩,trivial,⟨by rw[hw];rfl,by rw[hw];rfl,by rw[hw];rfl,hsz,fun b hbb hn=>?_,fun _ h=>h,fun _ h=>.inl h,fun b hm=>.inl (by simpa using hm),rfl,.inr (by rw[hw];exact Nat.le_add_right _ _)⟩⟩
    · simp only[List.mem_singleton]at hp
      subst hp
      exact⟨by show w'.heap[g]? = _;rw[hb g hlt,if_pos rfl],hg.2⟩
    · have hn':b≠g:=by simpa using hn
      show w'.heap[b]? = _
      rw[hb b hbb,if_neg hn']⟩
theorem ox_ {cur:Array Value} {d:List Value} (hs:d.length≤cur.size):(Sort.putCells id 0 d.toArray cur).toList.take d.length=d:=by
 apply List.ext_getElem?
 intro j
 rw[List.getElem?_take]
 split
 ·rename_i hj
  simp only[Sort.putCells,Array.getElem?_toList,Array.getElem?_mapIdx]
  rw[Array.getElem?_eq_getElem (by omega)]
  simp only[Option.map_some,Nat.zero_le,true_and,Nat.zero_add,List.size_toArray,hj,if_true,Nat.sub_zero]
  rw[List.getElem?_eq_getElem hj,getElem!_pos d.toArray j (by simpa using hj)]
  rfl
 rename_i hj
 rw[List.getElem?_eq_none (by omega)]
theorem oy_ {cur d:Array Value}:(Sort.putCells id 0 d cur).size=cur.size:=by simp[Sort.putCells]
theorem holdsV {g:Nat} {cur:Array Value} {T:TypeId} {xs:List Value} {v:Vw} (hs:v.sat [(g,.cells cur T (0,0))]) (ht:cur.toList.take xs.length=xs):Sort.Holds id v.w g 0 xs.toArray:=by
 intro j hj
 have hb:=(hs.own _ List.mem_cons_self).1
 simp only[List.size_toArray]at hj
 have hc:cur[j]? = some xs[j]:=by
   have:=congrArg (fun l=>l[j]?) ht
   simp only[List.getElem?_take,hj,if_true,Array.getElem?_toList]at this
   rw[this,List.getElem?_eq_getElem hj]
 refine⟨?_,?_⟩
 ·simp only[World.cell?,Nat.zero_add,hb,Option.isSome_none,Bool.false_eq_true,if_false]
  rw[hc,getElem!_pos xs.toArray j (by simpa using hj)]
  rfl
 simp[World.frozen?,hb]
def hs_ (xs:List Fc):List Fc:=xs.mergeSort fun x y=>!(ltOf iR_) y x
theorem fM_ (xs:List Fc):(hs_ xs).length=xs.length:=List.length_mergeSort _
theorem pB_ (xs:List Fc) (x:Fc):x∈hs_ xs↔x∈xs:=List.mem_mergeSort
theorem pA_ {xs:List Fc} (h:xs.Nodup):Srt (hs_ xs):=by
 have h1:(hs_ xs).Pairwise fun x y=>(!(ltOf iR_) y x)=true:=List.pairwise_mergeSort
   (fun a b c h1 h2=>by simp only[Bool.not_eq_true']at *;exact swoF.ntrans c b a h2 h1)
   (fun a b=>by
     simp only[Bool.or_eq_true,Bool.not_eq_true']
     rw[ltF,ltF,decide_eq_false_iff_not,decide_eq_false_iff_not]
     rcases Fc.lt_tri a b with g|g|g
     · exact .inl fun q=>Fc.lt_irr a (Fc.lt_trans g q)
     · subst g;exact .inl a.lt_irr
     · exact .inr fun q=>Fc.lt_irr a (Fc.lt_trans q g)) xs
 have h2:(hs_ xs).Nodup:=(List.mergeSort_perm xs _).nodup_iff.2 h
 refine (h1.and h2).imp ?_
 rintro x y ⟨a,b⟩
 simp only[Bool.not_eq_true',ltF,decide_eq_false_iff_not]at a
 rcases Fc.lt_tri x y with g|g|g
 ·exact g
 ·exact absurd g b
 exact absurd g a
theorem rA_ {sv:Value} {xs:List Fc} {Hr:Hp} (h:aE_ 24 6 sv xs.length (xs.flatMap Fc.cells) Hr) (hl:xs.length≤1000000000000) :
    Tri Tryz.prog 46 #[sv,.func (.func 47) #[] #[]] Hr [] (fun _:{y:Hp // aE_ 24 6 sv (hs_ xs).length ((hs_ xs).flatMap Fc.cells) y}=>.tuple #[]) (fun y=>y.1) (fun _=>[]):=by
  rcases h.2 with⟨rfl,h2,rfl⟩|⟨g,cap,cur,rfl,rfl,h3,h4,h5,h6⟩
  · obtain rfl:xs=[]:=List.eq_nil_of_length_eq_zero h2
    have T:=eg_ (P:=Tryz.prog) (H:=[]) (Γ:=[]) (callable Tryz.func46 rfl rfl) (fun v _ _=>(AnyF.slices_SortFunc_none Tryz.sortFc none 0 (.func (.func 47) #[] #[]) v.w).mono (by rintro e w' ⟨rfl,rfl⟩;exact⟨rfl,⟨rfl,rfl,rfl,Nat.le_refl _,fun _ _=>rfl⟩,.inr (Nat.le_refl _)⟩))
    exact⟨T.callable,fun v a b=>(T.run v a b).mono (by rintro e w' ⟨x,v',e1,e2,e3,e4,e5⟩;exact⟨⟨[],by simpa [hs_] using aE_.nil _ _⟩,v',e1,e2,e3,e4,e5⟩)⟩
  · have hx:(xs.flatMap Fc.cells).length=xs.length*6:=cT_ Fc.cells 6 Fc.cells_len xs
    have T:=lS_ (P:=Tryz.prog) (Γ:=[]) (r:=.tuple #[]) (g:=g) (cur:=cur) (T:=24) (d:=((hs_ xs).flatMap Fc.cells).toArray) (f:=46) (args:=#[.slice (some ⟨g,0,none⟩) xs.length cap,.func (.func 47) #[] #[]]) (callable Tryz.func46 rfl rfl) (fun v hs=>by
      have hh:=AnyQ.slices_SortFunc_total Tryz.sortFc 6 ba_ z_ Fc.cells Fc.cells_len (fun x u hu=>List.all_eq_true.1 x.cells_one u hu) iR_ swoF 47 #[] g 0 cap xs.toArray v.w (fun args w=>(callable Tryz.func47 rfl rfl) args w) (sq_ g 0 _ v.w) (by unfold Sort.HoldsK;rw[jX_];exact holdsV hs (by rw[hx];exact h6)) (Array.getElem?_eq_some_iff.1 (hs.own _ List.mem_cons_self).1).1 (by simp;omega) totF
      refine hh.mono ?_
      rintro e w' ⟨rfl,n,os,rfl⟩
      refine⟨rfl,n,os,?_⟩
      unfold sortWorldK Sort.putRowK
      rw[show ((xs.toArray.toList.mergeSort fun x y=>!(ltOf iR_) y x))=hs_ xs from rfl,jX_])
    refine⟨T.callable,fun v a b=>(T.run v a b).mono ?_⟩
    rintro e w' ⟨x,v',e1,e2,e3,e4,e5⟩
    have hy:((hs_ xs).flatMap Fc.cells).length=xs.length*6:=by rw[cT_ Fc.cells 6 Fc.cells_len,fM_]
    refine⟨⟨_,by rw[hy,fM_],.inr ⟨g,cap,_,by rw[fM_],rfl,by rw[fM_];exact h3,h4,by rw[oy_];exact h5,?_⟩⟩,v',e1,e2,e3,e4,e5⟩
    have:=ox_ (cur:=cur) (d:=(hs_ xs).flatMap Fc.cells) (by rw[hy,h5];omega)
    rw[hy]at this
    rw[fM_];exact this
end Go.Proofs.YtkeanlfhghlgiaaGreatDoor
