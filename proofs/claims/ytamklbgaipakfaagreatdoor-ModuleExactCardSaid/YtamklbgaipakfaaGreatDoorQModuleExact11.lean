/-
  Part of the proof of the law ModuleExact over this seat: the small logic, the data, the contracts of functions (no condition).
-/
import Derived.Test.YtamklbgaipakfaaGreatDoorQModuleExact10
import Derived.Test.YtamklbgaipakfaaGreatDoorQModuleExact9
import Derived.Shelf.SlSortCmp.NoneTotal
import Derived.Test.YtamklbgaipakfaaGreatDoorProg
import Derived.Test.YtamklbgaipakfaaGreatDoorQModuleExact3
import Derived.OrdersIn
import Derived.Test.YtamklbgaipakfaaGreatDoorQModuleExact8
set_option linter.unusedVariables false
set_option linter.unusedSimpArgs false
set_option linter.unusedSectionVars false
set_option maxHeartbeats 1000000
namespace Go.Proofs.YtamklbgaipakfaaGreatDoor
open Go Go.Sx Go.Proofs
attribute [local irreducible] Code.wp wpList wpAnyH
open Go.Vs
theorem vI_ (B:EngB) (E:Emt Tryz.prog 67) (x:Ix) (f:Fc) (nw fm:List Fc) (Hs:Hp) (hS:E.St nw fm Hs) (Ha Hu Ho Hi Hr Hm:Hp) (hI:IxO 9 67 B x ⟨Ha,Hu,Ho,Hi,Hr,Hm⟩) (hxl:∀ k,(lat x.above k).length≤1000000000∧(lat x.under k).length≤1000000000) (hyl:∀ k,(lat x.frm k).length≤1000000000∧(lat x.into k).length≤1000000000∧(lat x.ranges k).length≤1000000000∧(lat x.firms k).length≤1000000000):Tri Tryz.prog 74 #[zp_ B.g 0,Fc.val f] (Ha++(Hu++(Ho++(Hi++(Hr++(Hm++Hs)))))) [gF B E] (fun _:{y:IxH // IxO 9 67 B (x.add (decide (f∈fm)) f) y}=>.tuple #[]) (fun y=>y.1.a++(y.1.u++(y.1.o++(y.1.i++(y.1.r++(y.1.s++Hs)))))) (fun _=>[]):=by
 refine l_ Tryz.func74 rfl rfl Tryz.ntmps74 rfl fun v0=>?_
 obtain⟨ha,hu,ho,hi,hr,hm⟩:=hI
 dsimp only at ha hu ho hi hr hm
 refine Zz 2 ?_
 refine U_ rfl rfl fun b1=>Zi 11 (fun hr1=>?_) fun hr1=>?_
 ·refine Zi 6 (fun hr2=>?_) fun hr2=>?_
  ·refine Zi 6 (fun hr3=>?_) fun hr3=>?_
   ·refine Zz 6 ?_
    exact bX_ fe_ ⟨IxH.mk Ha Hu Ho Hi Hr Hm,by unfold Ix.add;rw[if_neg (by assumption),if_neg (by assumption),if_neg (by assumption)];exact⟨ha,hu,ho,hi,hr,hm⟩⟩ rfl zp zt
   refine Zz 10 ?_
   refine d_ (w_ fQ_ rfl rfl) rfl (K_ cG_ rfl fun b2=>x_ 0 dU_ rfl rfl rfl rfl rfl rfl (Zz 3 ?_))
   refine am_ ((b2,.cells #[str f.a,str f.r] 201 (0,0))::((b1,.cells #[.int .i64 f.kind,str f.a,str f.b,str f.r,.int .i64 f.lo,.int .i64 f.hi] 67 (0,0))::[])) zk ?_
   refine z_ 6 [0,1,2,3,4,5] zk zs (Zz 7 ?_)
   refine j_ 6 rfl zk (E_ aw_ aA_ aQ_ rfl rfl rfl rfl rfl rfl fun b3=>Zz 3 ?_)
   refine j_ 7 rfl zk ?_
   have hbb1:=(hyl (f.a,f.r)).2.2.1
   refine dD_ (k:=(f.a,f.r)) di_ hr sc_ or_ rfl rfl (c_ (c_ (c_ (i_ (i_ (i_ (i_ o_))))))) rfl fun es1 ce1 ie1 se1 ve1 Hk1 Hx1 ho1 hw1=>Zz 3 ?_
   refine z_ 2 [8,10] zk zs (Zz 3 ?_)
   refine j_ 9 rfl zk (aG_ (news:=List.flatMap Fc.cells [f]) ob_ hw1 rfl rfl zp rfl (dC_ zp) (fun u hu=>bd_ Fc.cells_one hu) (by simp only[maxLen];omega) (by omega) rfl fun sv1 Hr1 hr1=>?_)
   have hq1:=zsa hr1
   refine Zz 3 ?_
   refine j_ 11 rfl zk (bG_ (k:=(f.a,f.r)) (dd:=f) ho1 (by rw[dc_];exact hq1) rfl rfl rfl (db_ (p_ (i_ e_) (s_ o_ o_))) fun H2 hM2=>?_)
   refine Zz 5 ?_
   refine C_ (aB_ (i_ e_) (aB_ (i_ e_) (bD_ (i_ e_)))) (Zz 2 ?_)
   refine z_ 0 [0,1,2,3,4,5] zk zs (Zz 5 ?_)
   refine gt_ rfl (ou_ (f:=f) hS jr_ aO_ cR_ rfl rfl zp) rfl fun r4 hr4=>Zz 3 ?_
   cases r4
   ·replace hr4:=zdf hr4
    refine Zz 3 ?_
    exact bX_ fe_ ⟨IxH.mk Ha Hu Ho Hi H2 Hm,by have e0:x.add (decide (f∈fm)) f={ x with ranges:=(x.ranges++[((f.a,f.r),f)]) }:=(by unfold Ix.add;rw[if_neg (by omega),if_neg (by omega),if_pos (by assumption),decide_eq_false (by assumption)];rfl);rw[e0];exact⟨ha,hu,ho,hi,hM2,hm⟩⟩ rfl (s_ (c_ (c_ (c_ (i_ o_)))) (s_ (c_ (c_ (c_ (i_ o_)))) (s_ (c_ (c_ (c_ (i_ o_)))) (s_ (c_ (c_ (c_ (i_ o_)))) (s_ (c_ (c_ (c_ o_))) (s_ (c_ (c_ (c_ o_))) (c_ (c_ M_)))))))) zt
   replace hr4:=zdt hr4
   refine bg_ rfl ?_
   refine am_ ((b3,.cells #[.int .i64 f.kind,str f.a,str f.b,str f.r,.int .i64 f.lo,.int .i64 f.hi] 67 (0,0))::((b2,.cells #[str f.a,str f.r] 201 (0,0))::((b1,.cells #[.int .i64 f.kind,str f.a,str f.b,str f.r,.int .i64 f.lo,.int .i64 f.hi] 67 (0,0))::[]))) zk ?_
   refine z_ 6 [0,1,2,3,4,5] zk zs (Zz 7 ?_)
   refine j_ 6 rfl zk (E_ aw_ aA_ aQ_ rfl rfl rfl rfl rfl rfl fun b4=>Zz 3 ?_)
   refine j_ 7 rfl zk ?_
   have hbb3:=(hyl (f.a,f.r)).2.2.2
   refine dD_ (k:=(f.a,f.r)) di_ hm sc_ or_ rfl rfl zp rfl fun es3 ce3 ie3 se3 ve3 Hk3 Hx3 ho3 hw3=>Zz 2 ?_
   refine H_ zs (z_ 2 [8,10] zk zs (Zz 3 ?_))
   refine j_ 9 rfl zk (aG_ (news:=List.flatMap Fc.cells [f]) ob_ hw3 rfl rfl zp rfl (dC_ zp) (fun u hu=>bd_ Fc.cells_one hu) (by simp only[maxLen];omega) (by omega) rfl fun sv2 Hr2 hr2=>?_)
   have hq2:=zsa hr2
   refine Zz 2 ?_
   refine H_ zs (j_ 11 rfl zk (bG_ (k:=(f.a,f.r)) (dd:=f) ho3 (by rw[dc_];exact hq2) rfl rfl rfl (db_ (p_ (i_ e_) (s_ o_ o_))) fun H4 hM4=>?_))
   refine Zz 5 ?_
   exact bX_ fe_ ⟨IxH.mk Ha Hu Ho Hi H2 H4,by have e0:x.add (decide (f∈fm)) f={ x with ranges:=(x.ranges++[((f.a,f.r),f)]),firms:=(x.firms++[((f.a,f.r),f)]) }:=(by unfold Ix.add;rw[if_neg (by omega),if_neg (by omega),if_pos (by assumption),decide_eq_true (by assumption)];rfl);rw[e0];exact⟨ha,hu,ho,hi,hM2,hM4⟩⟩ rfl (s_ (i_ (c_ (c_ (c_ (c_ (i_ o_)))))) (s_ (i_ (c_ (c_ (c_ (c_ (i_ o_)))))) (s_ (i_ (c_ (c_ (c_ (c_ (i_ o_)))))) (s_ (i_ (c_ (c_ (c_ (c_ (i_ o_)))))) (s_ (i_ (c_ (c_ (c_ (c_ o_))))) (s_ o_ (c_ (c_ (c_ M_))))))))) zt
  refine Zz 4 ?_
  have hbb5:=(hxl f.b).2
  refine rw_ jq_ f.b hu (c_ (i_ o_)) fun es5 ce5 ve5 Hk5 Hx5 hw5 ho5=>?_
  refine C_ (aB_ e_ (bD_ (i_ (i_ e_)))) (X_ ?_)
  refine am_ ((b1,.cells #[.int .i64 f.kind,str f.a,str f.b,str f.r,.int .i64 f.lo,.int .i64 f.hi] 67 (0,0))::[]) zk ?_
  refine z_ 4 [0,1,2,3,4,5,6,7,8,9,10,11,13,14] zk zs (Zz 15 ?_)
  refine hy_ 12 15 rfl rfl zk ?_ ?_
  ·refine d_ (ig_ (k:=f.b) jq_ ho5 cl_ bn_ rfl rfl 0 rfl) rfl (Zz 3 ?_)
   refine j_ 15 rfl zk (E_ n_ O_ an_ rfl rfl rfl rfl rfl rfl fun b5=>Zz 3 ?_)
   refine j_ 16 rfl zk (aG_ (news:=List.flatMap aE_ [f.a]) dM_ hw5 rfl rfl zp rfl (bM_ 0 rfl) (fun u hu=>bd_ cP_ hu) (by simp only[maxLen];omega) (by omega) rfl fun sv3 Hr3 hr3=>?_)
   have hq3:=zsa hr3
   refine Zz 3 ?_
   refine j_ 17 rfl zk (ho_ (k:=f.b) (dd:=f.a) jq_ ho5 (by rw[dc_];exact hq3) (.inr rfl) cl_ rfl rfl rfl (db_ (p_ (i_ (c_ e_)) (s_ o_ (c_ (c_ o_))))) fun H6 hM6=>?_)
   refine Zz 5 ?_
   refine C_ (aB_ (i_ e_) (bD_ (i_ e_))) (Zz 2 ?_)
   refine z_ 4 [0,1,2,3,4,5,6,7,8,9] zk zs (Zz 4 ?_)
   refine P_ rfl (w_ fQ_ rfl rfl) rfl (Zz 4 ?_)
   refine P_ rfl (w_ fQ_ rfl rfl) rfl (bA_ ?_)
   refine hy_ 10 11 rfl rfl zk ?_ ?_
   ·refine K_ cG_ rfl fun b6=>Zz 3 ?_
    refine j_ 11 rfl zk (K_ cG_ rfl fun b7=>Zz 3 ?_)
    refine j_ 12 rfl zk (x_ 1 dU_ rfl rfl rfl rfl rfl rfl (Zz 3 ?_))
    refine j_ 13 rfl zk (x_ 0 dU_ rfl rfl rfl rfl rfl rfl (Zz 6 ?_))
    refine am_ ((b7,.cells #[str f.b,str f.r] 201 (0,0))::((b6,.cells #[str f.a,str f.r] 201 (0,0))::((b5,.cells #[str f.a] 9 (0,0))::((b1,.cells #[.int .i64 f.kind,str f.a,str f.b,str f.r,.int .i64 f.lo,.int .i64 f.hi] 67 (0,0))::[])))) zk ?_
    refine z_ 6 [0,1,2,3,4,5,6] zk zs (Zz 8 ?_)
    refine j_ 7 rfl zk (E_ n_ O_ an_ rfl rfl rfl rfl rfl rfl fun b8=>Zz 3 ?_)
    refine j_ 8 rfl zk ?_
    have hbb7:=(hyl (f.a,f.r)).1
    refine dD_ (k:=(f.a,f.r)) di_ ho bP_ bn_ rfl rfl (c_ (c_ (c_ (c_ (c_ (i_ (i_ o_))))))) rfl fun es7 ce7 ie7 se7 ve7 Hk7 Hx7 ho7 hw7=>Zz 2 ?_
    refine H_ (fun _ a b=>⟨Vw.sat.sub (a.perm (p_ (c_ (i_ (i_ (c_ e_)))) (p_ (c_ (i_ (i_ (c_ e_)))) (p_ (c_ (i_ (i_ (c_ e_)))) (c_ (i_ (i_ (c_ e_)))))))),b⟩) (z_ 2 [9,11] zk (fun _ a b=>⟨Vw.sat.sub (a.perm (p_ (c_ (i_ (i_ (c_ e_)))) (p_ (c_ (i_ (i_ (c_ e_)))) (p_ (c_ (i_ (i_ (c_ e_)))) (c_ (i_ (i_ (c_ e_)))))))),b⟩) (Zz 3 ?_))
    refine j_ 10 rfl zk (aG_ (news:=List.flatMap aE_ [f.b]) dM_ hw7 rfl rfl zp rfl (dC_ zp) (fun u hu=>bd_ cP_ hu) (by simp only[maxLen];omega) (by omega) rfl fun sv4 Hr4 hr4=>?_)
    have hq4:=zsa hr4
    refine Zz 2 ?_
    refine H_ (fun _ a b=>⟨Vw.sat.sub (a.perm (p_ (i_ (c_ (i_ (c_ e_)))) (p_ (i_ (c_ (i_ (c_ e_)))) (p_ (i_ (c_ (i_ (c_ e_)))) (i_ (c_ (i_ (c_ e_)))))))),b⟩) (j_ 12 rfl zk (bG_ (k:=(f.a,f.r)) (dd:=f.b) ho7 (by rw[dc_];exact hq4) rfl rfl rfl (db_ (p_ (i_ e_) (s_ o_ o_))) fun H8 hM8=>?_))
    refine Zz 5 ?_
    refine C_ (aB_ (i_ e_) (aB_ (i_ e_) (aB_ (i_ e_) (aB_ (i_ e_) (bD_ (i_ e_)))))) ?_
    refine am_ ((b8,.cells #[str f.b] 9 (0,0))::((b7,.cells #[str f.b,str f.r] 201 (0,0))::((b6,.cells #[str f.a,str f.r] 201 (0,0))::((b5,.cells #[str f.a] 9 (0,0))::((b1,.cells #[.int .i64 f.kind,str f.a,str f.b,str f.r,.int .i64 f.lo,.int .i64 f.hi] 67 (0,0))::[]))))) zk ?_
    refine z_ 6 [0,1,2,3,4,5,6] zk zs (Zz 8 ?_)
    refine j_ 7 rfl zk (E_ n_ O_ an_ rfl rfl rfl rfl rfl rfl fun b9=>Zz 3 ?_)
    refine j_ 8 rfl zk ?_
    have hbb9:=(hyl (f.b,f.r)).2.1
    refine dD_ (k:=(f.b,f.r)) di_ hi bP_ bn_ rfl rfl zp rfl fun es9 ce9 ie9 se9 ve9 Hk9 Hx9 ho9 hw9=>Zz 2 ?_
    refine H_ zs (z_ 2 [9,11] zk zs (Zz 3 ?_))
    refine j_ 10 rfl zk (aG_ (news:=List.flatMap aE_ [f.a]) dM_ hw9 rfl rfl zp rfl (dC_ zp) (fun u hu=>bd_ cP_ hu) (by simp only[maxLen];omega) (by omega) rfl fun sv5 Hr5 hr5=>?_)
    have hq5:=zsa hr5
    refine Zz 2 ?_
    refine H_ zs (j_ 12 rfl zk (bG_ (k:=(f.b,f.r)) (dd:=f.a) ho9 (by rw[dc_];exact hq5) rfl rfl rfl (db_ (p_ (i_ e_) (s_ o_ o_))) fun H10 hM10=>?_))
    refine Zz 2 ?_
    refine H_ zs (Zz 2 ?_)
    exact bX_ fe_ ⟨IxH.mk Ha H6 H8 H10 Hr Hm,by have e0:x.add (decide (f∈fm)) f={ x with under:=(x.under++[(f.b,f.a)]),frm:=(x.frm++[((f.a,f.r),f.b)]),into:=(x.into++[((f.b,f.r),f.a)]) }:=(by unfold Ix.add;rw[if_neg (by omega),if_pos (by assumption)]);rw[e0];exact⟨ha,hM6,hM8,hM10,hr,hm⟩⟩ rfl (s_ (i_ (c_ (c_ (c_ (c_ (c_ (c_ (i_ (i_ o_))))))))) (s_ (i_ (c_ (c_ (c_ (c_ (c_ (c_ (i_ o_)))))))) (s_ (i_ (c_ (c_ (c_ (c_ (c_ (c_ o_))))))) (s_ o_ (s_ (c_ (c_ (c_ (c_ (c_ (c_ o_)))))) (s_ (c_ (c_ (c_ (c_ (c_ (c_ o_)))))) (c_ (c_ (c_ (c_ (c_ M_))))))))))) zt
   refine K_ cG_ rfl fun b10=>Zz 3 ?_
   refine j_ 10 rfl zk (K_ cG_ rfl fun b11=>Zz 3 ?_)
   refine j_ 12 rfl zk (x_ 0 dU_ rfl rfl rfl rfl rfl rfl (Zz 3 ?_))
   refine j_ 13 rfl zk (x_ 1 dU_ rfl rfl rfl rfl rfl rfl (Zz 6 ?_))
   refine am_ ((b11,.cells #[str f.a,str f.r] 201 (0,0))::((b10,.cells #[str f.b,str f.r] 201 (0,0))::((b5,.cells #[str f.a] 9 (0,0))::((b1,.cells #[.int .i64 f.kind,str f.a,str f.b,str f.r,.int .i64 f.lo,.int .i64 f.hi] 67 (0,0))::[])))) zk ?_
   refine z_ 6 [0,1,2,3,4,5,6] zk zs (Zz 8 ?_)
   refine j_ 7 rfl zk (E_ n_ O_ an_ rfl rfl rfl rfl rfl rfl fun b12=>Zz 3 ?_)
   refine j_ 8 rfl zk ?_
   have hbb11:=(hyl (f.a,f.r)).1
   refine dD_ (k:=(f.a,f.r)) di_ ho bP_ bn_ rfl rfl (c_ (c_ (c_ (c_ (c_ (i_ (i_ o_))))))) rfl fun es11 ce11 ie11 se11 ve11 Hk11 Hx11 ho11 hw11=>Zz 2 ?_
   refine H_ (fun _ a b=>⟨Vw.sat.sub (a.perm (p_ (c_ (i_ (i_ (c_ e_)))) (p_ (c_ (i_ (i_ (c_ e_)))) (p_ (c_ (i_ (i_ (c_ e_)))) (c_ (i_ (i_ (c_ e_)))))))),b⟩) (z_ 2 [9,11] zk (fun _ a b=>⟨Vw.sat.sub (a.perm (p_ (c_ (i_ (i_ (c_ e_)))) (p_ (c_ (i_ (i_ (c_ e_)))) (p_ (c_ (i_ (i_ (c_ e_)))) (c_ (i_ (i_ (c_ e_)))))))),b⟩) (Zz 3 ?_))
   refine j_ 10 rfl zk (aG_ (news:=List.flatMap aE_ [f.b]) dM_ hw11 rfl rfl zp rfl (dC_ zp) (fun u hu=>bd_ cP_ hu) (by simp only[maxLen];omega) (by omega) rfl fun sv6 Hr6 hr6=>?_)
   have hq6:=zsa hr6
   refine Zz 2 ?_
   refine H_ (fun _ a b=>⟨Vw.sat.sub (a.perm (p_ (i_ (c_ (i_ (c_ e_)))) (p_ (i_ (c_ (i_ (c_ e_)))) (p_ (i_ (c_ (i_ (c_ e_)))) (i_ (c_ (i_ (c_ e_)))))))),b⟩) (j_ 12 rfl zk (bG_ (k:=(f.a,f.r)) (dd:=f.b) ho11 (by rw[dc_];exact hq6) rfl rfl rfl (db_ (p_ (i_ e_) (s_ o_ o_))) fun H12 hM12=>?_))
   refine Zz 5 ?_
   refine C_ (aB_ (i_ e_) (aB_ (i_ e_) (aB_ (i_ e_) (aB_ (i_ e_) (bD_ (i_ e_)))))) ?_
   refine am_ ((b12,.cells #[str f.b] 9 (0,0))::((b11,.cells #[str f.a,str f.r] 201 (0,0))::((b10,.cells #[str f.b,str f.r] 201 (0,0))::((b5,.cells #[str f.a] 9 (0,0))::((b1,.cells #[.int .i64 f.kind,str f.a,str f.b,str f.r,.int .i64 f.lo,.int .i64 f.hi] 67 (0,0))::[]))))) zk ?_
   refine z_ 6 [0,1,2,3,4,5,6] zk zs (Zz 8 ?_)
   refine j_ 7 rfl zk (E_ n_ O_ an_ rfl rfl rfl rfl rfl rfl fun b13=>Zz 3 ?_)
   refine j_ 8 rfl zk ?_
   have hbb13:=(hyl (f.b,f.r)).2.1
   refine dD_ (k:=(f.b,f.r)) di_ hi bP_ bn_ rfl rfl zp rfl fun es13 ce13 ie13 se13 ve13 Hk13 Hx13 ho13 hw13=>Zz 2 ?_
   refine H_ zs (z_ 2 [9,11] zk zs (Zz 3 ?_))
   refine j_ 10 rfl zk (aG_ (news:=List.flatMap aE_ [f.a]) dM_ hw13 rfl rfl zp rfl (dC_ zp) (fun u hu=>bd_ cP_ hu) (by simp only[maxLen];omega) (by omega) rfl fun sv7 Hr7 hr7=>?_)
   have hq7:=zsa hr7
   refine Zz 2 ?_
   refine H_ zs (j_ 12 rfl zk (bG_ (k:=(f.b,f.r)) (dd:=f.a) ho13 (by rw[dc_];exact hq7) rfl rfl rfl (db_ (p_ (i_ e_) (s_ o_ o_))) fun H14 hM14=>?_))
   refine Zz 2 ?_
   refine H_ zs (Zz 2 ?_)
   exact bX_ fe_ ⟨IxH.mk Ha H6 H12 H14 Hr Hm,by have e0:x.add (decide (f∈fm)) f={ x with under:=(x.under++[(f.b,f.a)]),frm:=(x.frm++[((f.a,f.r),f.b)]),into:=(x.into++[((f.b,f.r),f.a)]) }:=(by unfold Ix.add;rw[if_neg (by omega),if_pos (by assumption)]);rw[e0];exact⟨ha,hM6,hM12,hM14,hr,hm⟩⟩ rfl (s_ (i_ (c_ (c_ (c_ (c_ (c_ (c_ (i_ (i_ o_))))))))) (s_ (i_ (c_ (c_ (c_ (c_ (c_ (c_ (i_ o_)))))))) (s_ (i_ (c_ (c_ (c_ (c_ (c_ (c_ o_))))))) (s_ o_ (s_ (c_ (c_ (c_ (c_ (c_ (c_ o_)))))) (s_ (c_ (c_ (c_ (c_ (c_ (c_ o_)))))) (c_ (c_ (c_ (c_ (c_ M_))))))))))) zt
  refine E_ n_ O_ an_ rfl rfl rfl rfl rfl rfl fun b14=>Zz 3 ?_
  refine j_ 12 rfl zk (d_ (ig_ (k:=f.b) jq_ ho5 cl_ bn_ rfl rfl 1 rfl) rfl (Zz 3 ?_))
  refine j_ 16 rfl zk (aG_ (news:=List.flatMap aE_ [f.a]) dM_ hw5 rfl rfl zp rfl (bM_ 0 rfl) (fun u hu=>bd_ cP_ hu) (by simp only[maxLen];omega) (by omega) rfl fun sv8 Hr8 hr8=>?_)
  have hq8:=zsa hr8
  refine Zz 3 ?_
  refine j_ 17 rfl zk (ho_ (k:=f.b) (dd:=f.a) jq_ ho5 (by rw[dc_];exact hq8) (.inr rfl) cl_ rfl rfl rfl (db_ (p_ (i_ (c_ e_)) (s_ o_ (c_ (c_ o_))))) fun H15 hM15=>?_)
  refine Zz 5 ?_
  refine C_ (aB_ (i_ e_) (bD_ (i_ e_))) (Zz 2 ?_)
  refine z_ 4 [0,1,2,3,4,5,6,7,8,9] zk zs (Zz 4 ?_)
  refine P_ rfl (w_ fQ_ rfl rfl) rfl (Zz 4 ?_)
  refine P_ rfl (w_ fQ_ rfl rfl) rfl (bA_ ?_)
  refine hy_ 10 11 rfl rfl zk ?_ ?_
  ·refine K_ cG_ rfl fun b15=>Zz 3 ?_
   refine j_ 11 rfl zk (K_ cG_ rfl fun b16=>Zz 3 ?_)
   refine j_ 12 rfl zk (x_ 1 dU_ rfl rfl rfl rfl rfl rfl (Zz 3 ?_))
   refine j_ 13 rfl zk (x_ 0 dU_ rfl rfl rfl rfl rfl rfl (Zz 6 ?_))
   refine am_ ((b16,.cells #[str f.b,str f.r] 201 (0,0))::((b15,.cells #[str f.a,str f.r] 201 (0,0))::((b14,.cells #[str f.a] 9 (0,0))::((b1,.cells #[.int .i64 f.kind,str f.a,str f.b,str f.r,.int .i64 f.lo,.int .i64 f.hi] 67 (0,0))::[])))) zk ?_
   refine z_ 6 [0,1,2,3,4,5,6] zk zs (Zz 8 ?_)
   refine j_ 7 rfl zk (E_ n_ O_ an_ rfl rfl rfl rfl rfl rfl fun b17=>Zz 3 ?_)
   refine j_ 8 rfl zk ?_
   have hbb16:=(hyl (f.a,f.r)).1
   refine dD_ (k:=(f.a,f.r)) di_ ho bP_ bn_ rfl rfl (c_ (c_ (c_ (c_ (c_ (i_ (i_ o_))))))) rfl fun es16 ce16 ie16 se16 ve16 Hk16 Hx16 ho16 hw16=>Zz 2 ?_
   refine H_ (fun _ a b=>⟨Vw.sat.sub (a.perm (p_ (c_ (i_ (i_ (c_ e_)))) (p_ (c_ (i_ (i_ (c_ e_)))) (p_ (c_ (i_ (i_ (c_ e_)))) (c_ (i_ (i_ (c_ e_)))))))),b⟩) (z_ 2 [9,11] zk (fun _ a b=>⟨Vw.sat.sub (a.perm (p_ (c_ (i_ (i_ (c_ e_)))) (p_ (c_ (i_ (i_ (c_ e_)))) (p_ (c_ (i_ (i_ (c_ e_)))) (c_ (i_ (i_ (c_ e_)))))))),b⟩) (Zz 3 ?_))
   refine j_ 10 rfl zk (aG_ (news:=List.flatMap aE_ [f.b]) dM_ hw16 rfl rfl zp rfl (dC_ zp) (fun u hu=>bd_ cP_ hu) (by simp only[maxLen];omega) (by omega) rfl fun sv9 Hr9 hr9=>?_)
   have hq9:=zsa hr9
   refine Zz 2 ?_
   refine H_ (fun _ a b=>⟨Vw.sat.sub (a.perm (p_ (i_ (c_ (i_ (c_ e_)))) (p_ (i_ (c_ (i_ (c_ e_)))) (p_ (i_ (c_ (i_ (c_ e_)))) (i_ (c_ (i_ (c_ e_)))))))),b⟩) (j_ 12 rfl zk (bG_ (k:=(f.a,f.r)) (dd:=f.b) ho16 (by rw[dc_];exact hq9) rfl rfl rfl (db_ (p_ (i_ e_) (s_ o_ o_))) fun H17 hM17=>?_))
   refine Zz 5 ?_
   refine C_ (aB_ (i_ e_) (aB_ (i_ e_) (aB_ (i_ e_) (aB_ (i_ e_) (bD_ (i_ e_)))))) ?_
   refine am_ ((b17,.cells #[str f.b] 9 (0,0))::((b16,.cells #[str f.b,str f.r] 201 (0,0))::((b15,.cells #[str f.a,str f.r] 201 (0,0))::((b14,.cells #[str f.a] 9 (0,0))::((b1,.cells #[.int .i64 f.kind,str f.a,str f.b,str f.r,.int .i64 f.lo,.int .i64 f.hi] 67 (0,0))::[]))))) zk ?_
   refine z_ 6 [0,1,2,3,4,5,6] zk zs (Zz 8 ?_)
   refine j_ 7 rfl zk (E_ n_ O_ an_ rfl rfl rfl rfl rfl rfl fun b18=>Zz 3 ?_)
   refine j_ 8 rfl zk ?_
   have hbb18:=(hyl (f.b,f.r)).2.1
   refine dD_ (k:=(f.b,f.r)) di_ hi bP_ bn_ rfl rfl zp rfl fun es18 ce18 ie18 se18 ve18 Hk18 Hx18 ho18 hw18=>Zz 2 ?_
   refine H_ zs (z_ 2 [9,11] zk zs (Zz 3 ?_))
   refine j_ 10 rfl zk (aG_ (news:=List.flatMap aE_ [f.a]) dM_ hw18 rfl rfl zp rfl (dC_ zp) (fun u hu=>bd_ cP_ hu) (by simp only[maxLen];omega) (by omega) rfl fun sv10 Hr10 hr10=>?_)
   have hq10:=zsa hr10
   refine Zz 2 ?_
   refine H_ zs (j_ 12 rfl zk (bG_ (k:=(f.b,f.r)) (dd:=f.a) ho18 (by rw[dc_];exact hq10) rfl rfl rfl (db_ (p_ (i_ e_) (s_ o_ o_))) fun H19 hM19=>?_))
   refine Zz 2 ?_
   refine H_ zs (Zz 2 ?_)
   exact bX_ fe_ ⟨IxH.mk Ha H15 H17 H19 Hr Hm,by have e0:x.add (decide (f∈fm)) f={ x with under:=(x.under++[(f.b,f.a)]),frm:=(x.frm++[((f.a,f.r),f.b)]),into:=(x.into++[((f.b,f.r),f.a)]) }:=(by unfold Ix.add;rw[if_neg (by omega),if_pos (by assumption)]);rw[e0];exact⟨ha,hM15,hM17,hM19,hr,hm⟩⟩ rfl (s_ (i_ (c_ (c_ (c_ (c_ (c_ (c_ (i_ (i_ o_))))))))) (s_ (i_ (c_ (c_ (c_ (c_ (c_ (c_ (i_ o_)))))))) (s_ (i_ (c_ (c_ (c_ (c_ (c_ (c_ o_))))))) (s_ o_ (s_ (c_ (c_ (c_ (c_ (c_ (c_ o_)))))) (s_ (c_ (c_ (c_ (c_ (c_ (c_ o_)))))) (c_ (c_ (c_ (c_ (c_ M_))))))))))) zt
  refine K_ cG_ rfl fun b19=>Zz 3 ?_
  refine j_ 10 rfl zk (K_ cG_ rfl fun b20=>Zz 3 ?_)
  refine j_ 12 rfl zk (x_ 0 dU_ rfl rfl rfl rfl rfl rfl (Zz 3 ?_))
  refine j_ 13 rfl zk (x_ 1 dU_ rfl rfl rfl rfl rfl rfl (Zz 6 ?_))
  refine am_ ((b20,.cells #[str f.a,str f.r] 201 (0,0))::((b19,.cells #[str f.b,str f.r] 201 (0,0))::((b14,.cells #[str f.a] 9 (0,0))::((b1,.cells #[.int .i64 f.kind,str f.a,str f.b,str f.r,.int .i64 f.lo,.int .i64 f.hi] 67 (0,0))::[])))) zk ?_
  refine z_ 6 [0,1,2,3,4,5,6] zk zs (Zz 8 ?_)
  refine j_ 7 rfl zk (E_ n_ O_ an_ rfl rfl rfl rfl rfl rfl fun b21=>Zz 3 ?_)
  refine j_ 8 rfl zk ?_
  have hbb20:=(hyl (f.a,f.r)).1
  refine dD_ (k:=(f.a,f.r)) di_ ho bP_ bn_ rfl rfl (c_ (c_ (c_ (c_ (c_ (i_ (i_ o_))))))) rfl fun es20 ce20 ie20 se20 ve20 Hk20 Hx20 ho20 hw20=>Zz 2 ?_
  refine H_ (fun _ a b=>⟨Vw.sat.sub (a.perm (p_ (c_ (i_ (i_ (c_ e_)))) (p_ (c_ (i_ (i_ (c_ e_)))) (p_ (c_ (i_ (i_ (c_ e_)))) (c_ (i_ (i_ (c_ e_)))))))),b⟩) (z_ 2 [9,11] zk (fun _ a b=>⟨Vw.sat.sub (a.perm (p_ (c_ (i_ (i_ (c_ e_)))) (p_ (c_ (i_ (i_ (c_ e_)))) (p_ (c_ (i_ (i_ (c_ e_)))) (c_ (i_ (i_ (c_ e_)))))))),b⟩) (Zz 3 ?_))
  refine j_ 10 rfl zk (aG_ (news:=List.flatMap aE_ [f.b]) dM_ hw20 rfl rfl zp rfl (dC_ zp) (fun u hu=>bd_ cP_ hu) (by simp only[maxLen];omega) (by omega) rfl fun sv11 Hr11 hr11=>?_)
  have hq11:=zsa hr11
  refine Zz 2 ?_
  refine H_ (fun _ a b=>⟨Vw.sat.sub (a.perm (p_ (i_ (c_ (i_ (c_ e_)))) (p_ (i_ (c_ (i_ (c_ e_)))) (p_ (i_ (c_ (i_ (c_ e_)))) (i_ (c_ (i_ (c_ e_)))))))),b⟩) (j_ 12 rfl zk (bG_ (k:=(f.a,f.r)) (dd:=f.b) ho20 (by rw[dc_];exact hq11) rfl rfl rfl (db_ (p_ (i_ e_) (s_ o_ o_))) fun H21 hM21=>?_))
  refine Zz 5 ?_
  refine C_ (aB_ (i_ e_) (aB_ (i_ e_) (aB_ (i_ e_) (aB_ (i_ e_) (bD_ (i_ e_)))))) ?_
  refine am_ ((b21,.cells #[str f.b] 9 (0,0))::((b20,.cells #[str f.a,str f.r] 201 (0,0))::((b19,.cells #[str f.b,str f.r] 201 (0,0))::((b14,.cells #[str f.a] 9 (0,0))::((b1,.cells #[.int .i64 f.kind,str f.a,str f.b,str f.r,.int .i64 f.lo,.int .i64 f.hi] 67 (0,0))::[]))))) zk ?_
  refine z_ 6 [0,1,2,3,4,5,6] zk zs (Zz 8 ?_)
  refine j_ 7 rfl zk (E_ n_ O_ an_ rfl rfl rfl rfl rfl rfl fun b22=>Zz 3 ?_)
  refine j_ 8 rfl zk ?_
  have hbb22:=(hyl (f.b,f.r)).2.1
  refine dD_ (k:=(f.b,f.r)) di_ hi bP_ bn_ rfl rfl zp rfl fun es22 ce22 ie22 se22 ve22 Hk22 Hx22 ho22 hw22=>Zz 2 ?_
  refine H_ zs (z_ 2 [9,11] zk zs (Zz 3 ?_))
  refine j_ 10 rfl zk (aG_ (news:=List.flatMap aE_ [f.a]) dM_ hw22 rfl rfl zp rfl (dC_ zp) (fun u hu=>bd_ cP_ hu) (by simp only[maxLen];omega) (by omega) rfl fun sv12 Hr12 hr12=>?_)
  have hq12:=zsa hr12
  refine Zz 2 ?_
  refine H_ zs (j_ 12 rfl zk (bG_ (k:=(f.b,f.r)) (dd:=f.a) ho22 (by rw[dc_];exact hq12) rfl rfl rfl (db_ (p_ (i_ e_) (s_ o_ o_))) fun H23 hM23=>?_))
  refine Zz 2 ?_
  refine H_ zs (Zz 2 ?_)
  exact bX_ fe_ ⟨IxH.mk Ha H15 H21 H23 Hr Hm,by have e0:x.add (decide (f∈fm)) f={ x with under:=(x.under++[(f.b,f.a)]),frm:=(x.frm++[((f.a,f.r),f.b)]),into:=(x.into++[((f.b,f.r),f.a)]) }:=(by unfold Ix.add;rw[if_neg (by omega),if_pos (by assumption)]);rw[e0];exact⟨ha,hM15,hM21,hM23,hr,hm⟩⟩ rfl (s_ (i_ (c_ (c_ (c_ (c_ (c_ (c_ (i_ (i_ o_))))))))) (s_ (i_ (c_ (c_ (c_ (c_ (c_ (c_ (i_ o_)))))))) (s_ (i_ (c_ (c_ (c_ (c_ (c_ (c_ o_))))))) (s_ o_ (s_ (c_ (c_ (c_ (c_ (c_ (c_ o_)))))) (s_ (c_ (c_ (c_ (c_ (c_ (c_ o_)))))) (c_ (c_ (c_ (c_ (c_ M_))))))))))) zt
 refine Zz 4 ?_
 have hbb24:=(hxl f.a).1
 refine rw_ jq_ f.a ha (c_ o_) fun es24 ce24 ve24 Hk24 Hx24 hw24 ho24=>?_
 refine C_ (aB_ e_ (bD_ (i_ (i_ e_)))) ?_
 refine am_ ((b1,.cells #[.int .i64 f.kind,str f.a,str f.b,str f.r,.int .i64 f.lo,.int .i64 f.hi] 67 (0,0))::[]) zk ?_
 refine z_ 4 [0,1,2,3,4,5,6,7,8,9,10,11,13,14] zk zs (Zz 15 ?_)
 refine hy_ 12 15 rfl rfl zk ?_ ?_
 ·refine d_ (ig_ (k:=f.a) jq_ ho24 cl_ bn_ rfl rfl 0 rfl) rfl (Zz 3 ?_)
  refine j_ 15 rfl zk (E_ n_ O_ an_ rfl rfl rfl rfl rfl rfl fun b23=>Zz 3 ?_)
  refine j_ 16 rfl zk (aG_ (news:=List.flatMap aE_ [f.b]) dM_ hw24 rfl rfl zp rfl (bM_ 0 rfl) (fun u hu=>bd_ cP_ hu) (by simp only[maxLen];omega) (by omega) rfl fun sv13 Hr13 hr13=>?_)
  have hq13:=zsa hr13
  refine Zz 3 ?_
  refine j_ 17 rfl zk (ho_ (k:=f.a) (dd:=f.b) jq_ ho24 (by rw[dc_];exact hq13) (.inr rfl) cl_ rfl rfl rfl (db_ (p_ (i_ (c_ e_)) (s_ o_ (c_ (c_ o_))))) fun H25 hM25=>?_)
  refine Zz 5 ?_
  exact bX_ fe_ ⟨IxH.mk H25 Hu Ho Hi Hr Hm,by have e0:x.add (decide (f∈fm)) f={ x with above:=(x.above++[(f.a,f.b)]) }:=(by unfold Ix.add;rw[if_pos (by assumption)]);rw[e0];exact⟨hM25,hu,ho,hi,hr,hm⟩⟩ rfl (s_ o_ (s_ (c_ (c_ o_)) (s_ (c_ (c_ o_)) (s_ (c_ (c_ o_)) (s_ (c_ (c_ o_)) (s_ (c_ (c_ o_)) (c_ M_))))))) zt
 refine E_ n_ O_ an_ rfl rfl rfl rfl rfl rfl fun b24=>Zz 3 ?_
 refine j_ 12 rfl zk (d_ (ig_ (k:=f.a) jq_ ho24 cl_ bn_ rfl rfl 1 rfl) rfl (Zz 3 ?_))
 refine j_ 16 rfl zk (aG_ (news:=List.flatMap aE_ [f.b]) dM_ hw24 rfl rfl zp rfl (bM_ 0 rfl) (fun u hu=>bd_ cP_ hu) (by simp only[maxLen];omega) (by omega) rfl fun sv14 Hr14 hr14=>?_)
 have hq14:=zsa hr14
 refine Zz 3 ?_
 refine j_ 17 rfl zk (ho_ (k:=f.a) (dd:=f.b) jq_ ho24 (by rw[dc_];exact hq14) (.inr rfl) cl_ rfl rfl rfl (db_ (p_ (i_ (c_ e_)) (s_ o_ (c_ (c_ o_))))) fun H26 hM26=>?_)
 refine Zz 5 ?_
 exact bX_ fe_ ⟨IxH.mk H26 Hu Ho Hi Hr Hm,by have e0:x.add (decide (f∈fm)) f={ x with above:=(x.above++[(f.a,f.b)]) }:=(by unfold Ix.add;rw[if_pos (by assumption)]);rw[e0];exact⟨hM26,hu,ho,hi,hr,hm⟩⟩ rfl (s_ o_ (s_ (c_ (c_ o_)) (s_ (c_ (c_ o_)) (s_ (c_ (c_ o_)) (s_ (c_ (c_ o_)) (s_ (c_ (c_ o_)) (c_ M_))))))) zt
end Go.Proofs.YtamklbgaipakfaaGreatDoor
namespace Go.Proofs.YtamklbgaipakfaaGreatDoor
open Go Go.Sx Go.Proofs
attribute [local irreducible] Code.wp wpList wpAnyH
open Go.Vs
theorem hP_ (x:Pc) (ro at':Str) (pm:List (Ky×Pc)) (bx bg:Nat) (g pb kb ab ub ob ib rb sb fb:Nat) (ev:Value) (lv:Value) (Hm:Hp) (hm:dZ_ Ky.val Pc.cells 58 10 pm pb Hm) (hpl:pm.length≤1000000000):Tri Tryz.prog 211 #[str ro,str at',zp_ bx 0,zp_ bg 0] ((bx,.cells #[.int .i64 x.kind,str x.a,str x.b,str x.c,str x.r,str x.s,str x.t,.int .i64 x.lo,.int .i64 x.hi,.int .i64 x.frm] 58 (0,0))::(bg,.cells #[zp_ g 0] 116 (0,0))::(g,.cells #[.map (some pb),lv,.map (some kb),ev,.map (some ab),.map (some ub),.map (some ob),.map (some ib),.map (some rb),.map (some sb),.map (some fb)] 125 (0,0))::Hm) [] (fun _:{H:Hp // dZ_ Ky.val Pc.cells 58 10 (pm++[((Ky.mk x.kind ro at'),x)]) pb H}=>.tuple #[]) (fun y=>(bx,.cells #[.int .i64 x.kind,str x.a,str x.b,str x.c,str x.r,str x.s,str x.t,.int .i64 x.lo,.int .i64 x.hi,.int .i64 x.frm] 58 (0,0))::(bg,.cells #[zp_ g 0] 116 (0,0))::(g,.cells #[.map (some pb),lv,.map (some kb),ev,.map (some ab),.map (some ub),.map (some ob),.map (some ib),.map (some rb),.map (some sb),.map (some fb)] 125 (0,0))::y.1) (fun _=>[]):=by
  refine l_ Tryz.func211 rfl rfl Tryz.ntmps211 rfl fun v0=>?_
  refine Zz 6 ?_
  refine d_ (w_ fa_ rfl rfl) rfl (K_ Tryz.zeroValue250 rfl fun b1=>x_ 0 Tryz.sizeOf250 rfl rfl rfl rfl rfl rfl (Zz 2 ?_))
  refine am_ ((b1,.cells #[.int .i64 x.kind,str ro,str at'] 250 (0,0))::((bx,.cells #[.int .i64 x.kind,str x.a,str x.b,str x.c,str x.r,str x.s,str x.t,.int .i64 x.lo,.int .i64 x.hi,.int .i64 x.frm] 58 (0,0))::((bg,.cells #[zp_ g 0] 116 (0,0))::((g,.cells #[.map (some pb),lv,.map (some kb),ev,.map (some ab),.map (some ub),.map (some ob),.map (some ib),.map (some rb),.map (some sb),.map (some fb)] 125 (0,0))::[])))) zk ?_
  refine z_ 6 [0,1,2,3,4,5] zk zs (Zz 7 ?_)
  refine j_ 6 rfl zk (E_ q_ F_ Z_ rfl rfl rfl rfl rfl rfl fun b2=>Zz 2 ?_)
  refine H_ zs (j_ 7 rfl zk ?_)
  have hbb1:=Nat.le_trans (fx_ pm (Ky.mk x.kind ro at')) hpl
  refine dD_ (k:=(Ky.mk x.kind ro at')) hC_ hm bQ_ cC_ rfl rfl (c_ (c_ (c_ (c_ M_)))) rfl fun es1 ce1 ie1 se1 ve1 Hk1 Hx1 ho1 hw1=>Zz 2 ?_
  refine H_ (fun _ a b=>⟨Vw.sat.sub (a.perm (p_ (c_ (i_ (i_ (c_ e_)))) (p_ (c_ (i_ (i_ (c_ e_)))) (p_ (c_ (i_ (i_ (c_ e_)))) (c_ (i_ (i_ (c_ e_)))))))),b⟩) (z_ 2 [8,10] zk (fun _ a b=>⟨Vw.sat.sub (a.perm (p_ (c_ (i_ (i_ (c_ e_)))) (p_ (c_ (i_ (i_ (c_ e_)))) (p_ (c_ (i_ (i_ (c_ e_)))) (c_ (i_ (i_ (c_ e_)))))))),b⟩) (Zz 3 ?_))
  refine j_ 9 rfl zk (aG_ (news:=List.flatMap Pc.cells [x]) hY_ hw1 rfl rfl zp rfl (dC_ zp) (fun u hu=>bd_ Pc.cells_one hu) (by simp only[maxLen];omega) (by omega) rfl fun sv1 Hr1 hr1=>?_)
  have hq1:=zsa hr1
  refine Zz 2 ?_
  refine H_ (fun _ a b=>⟨Vw.sat.sub (a.perm (p_ (i_ (c_ (i_ (c_ e_)))) (p_ (i_ (c_ (i_ (c_ e_)))) (p_ (i_ (c_ (i_ (c_ e_)))) (i_ (c_ (i_ (c_ e_)))))))),b⟩) (j_ 11 rfl zk (bG_ (k:=(Ky.mk x.kind ro at')) (dd:=x) ho1 (by rw[dc_];exact hq1) rfl rfl rfl (db_ (p_ (i_ e_) (s_ o_ o_))) fun H2 hM2=>?_))
  refine Zz 2 ?_
  refine H_ zs (Zz 2 ?_)
  exact bX_ Tryz.results211 ⟨H2,hM2⟩ rfl zp zt
theorem sZ_ (x:Pc) (pm:List (Ky×Pc)) (lps:List Str) (g pb kb ab ub ob ib rb sb fb:Nat) (ev:Value) (lv:Value) (Hm Hl:Hp) (hm:dZ_ Ky.val Pc.cells 58 10 pm pb Hm) (hl:zR 9 1 aE_ lv lps Hl) (hpl:pm.length≤900000000) (hll:lps.length≤900000000):Tri Tryz.prog 136 #[zp_ g 0,Pc.val x] ((g,.cells #[.map (some pb),lv,.map (some kb),ev,.map (some ab),.map (some ub),.map (some ob),.map (some ib),.map (some rb),.map (some sb),.map (some fb)] 125 (0,0))::(Hm++Hl)) [] (fun _:{y:Value×Hp×Hp // dZ_ Ky.val Pc.cells 58 10 (pm++cH_ x) pb y.2.1∧zR 9 1 aE_ y.1 (lps++as_ [x]) y.2.2}=>.tuple #[]) (fun y=>(g,.cells #[.map (some pb),y.1.1,.map (some kb),ev,.map (some ab),.map (some ub),.map (some ob),.map (some ib),.map (some rb),.map (some sb),.map (some fb)] 125 (0,0))::(y.1.2.1++y.1.2.2)) (fun _=>[]):=by
 refine l_ Tryz.func136 rfl rfl Tryz.ntmps136 rfl fun v0=>?_
 refine Zz 2 ?_
 refine U_ rfl rfl fun b1=>U_ rfl rfl fun b2=>Zz 4 ?_
 refine d_ (bV_ rfl rfl) rfl (Zi 13 (fun hr1=>?_) fun hr1=>?_)
 ·refine Zi 6 (fun hr2=>?_) fun hr2=>?_
  ·refine Zi 5 (fun hr3=>?_) fun hr3=>?_
   ·refine Zi 6 (fun hr4=>?_) fun hr4=>?_
    ·refine Zi 6 (fun hr5=>?_) fun hr5=>?_
     ·refine Zi 7 (fun hr6=>?_) fun hr6=>?_
      ·refine Zi 5 (fun hr7=>?_) fun hr7=>?_
       ·refine Zi 6 (fun hr8=>?_) fun hr8=>?_
        ·refine Zi 6 (fun hr9=>?_) fun hr9=>?_
         ·refine Zz 6 ?_
          have e1:pm=pm++cH_ x:=by simp[cH_, *]
          have e2:lps=lps++as_ [x]:=by simp[as_, *]
          exact bX_ cT_ ⟨(lv,Hm,Hl),e1▸hm,e2▸hl⟩ rfl zp zt
         refine Zz 4 ?_
         refine am_ ((b2,.cells #[.int .i64 x.kind,str x.a,str x.b,str x.c,str x.r,str x.s,str x.t,.int .i64 x.lo,.int .i64 x.hi,.int .i64 x.frm] 58 (0,0))::((b1,.cells #[zp_ g 0] 116 (0,0))::[])) zk ?_
         refine z_ 6 [0,1,2,3,5,6] zk zs (Zz 7 ?_)
         refine hy_ 4 7 rfl rfl zk ?_ ?_
         ·refine Zz 3 ?_
          refine H_ zs (j_ 7 rfl zk (E_ n_ O_ an_ rfl rfl rfl rfl rfl rfl fun b3=>Zz 2 ?_))
          refine H_ zs (j_ 8 rfl zk (aG_ (news:=List.flatMap aE_ [x.r]) dM_ hl rfl rfl zp rfl (bM_ 0 rfl) (fun u hu=>bd_ cP_ hu) (by simp only[maxLen];first|omega|(simp;omega)) (by first|omega|(simp;omega)) rfl fun sv1 Hr1 hr1=>?_))
          have hq1:=zsa hr1
          refine Zz 2 ?_
          refine H_ zs (z_ 1 [9,10] zk zs (Zz 3 ?_))
          refine j_ 11 rfl zk (C_ (aB_ (i_ e_) (aB_ (i_ e_) (aB_ (i_ e_) (bD_ (i_ e_))))) (cI_ 3 hq1 gR_ rfl rfl rfl rfl (Zz 2 ?_)))
          refine H_ (fun _ a b=>⟨Vw.sat.sub (a.perm (p_ (c_ e_) (c_ e_))),b⟩) (Zz 2 ?_)
          have e1:pm=pm++cH_ x:=by simp[cH_, *]
          have e2:(lps++[x.r])=lps++as_ [x]:=by simp[as_, *]
          exact bX_ cT_ ⟨(sv1,Hm,Hr1),e1▸hm,e2▸hq1⟩ rfl (p_ (c_ (c_ (c_ e_))) (s_ (c_ (c_ (c_ ca_))) (c_ (c_ M_)))) zt
         refine E_ n_ O_ an_ rfl rfl rfl rfl rfl rfl fun b4=>Zz 2 ?_
         refine H_ zs (j_ 4 rfl zk (Zz 3 ?_))
         refine H_ zs (j_ 8 rfl zk (aG_ (news:=List.flatMap aE_ [x.r]) dM_ hl rfl rfl zp rfl (bM_ 0 rfl) (fun u hu=>bd_ cP_ hu) (by simp only[maxLen];first|omega|(simp;omega)) (by first|omega|(simp;omega)) rfl fun sv2 Hr2 hr2=>?_))
         have hq2:=zsa hr2
         refine Zz 2 ?_
         refine H_ zs (z_ 1 [9,10] zk zs (Zz 3 ?_))
         refine j_ 11 rfl zk (C_ (aB_ (i_ e_) (aB_ (i_ e_) (aB_ (i_ e_) (bD_ (i_ e_))))) (cI_ 3 hq2 gR_ rfl rfl rfl rfl (Zz 2 ?_)))
         refine H_ (fun _ a b=>⟨Vw.sat.sub (a.perm (p_ (c_ e_) (c_ e_))),b⟩) (Zz 2 ?_)
         have e1:pm=pm++cH_ x:=by simp[cH_, *]
         have e2:(lps++[x.r])=lps++as_ [x]:=by simp[as_, *]
         exact bX_ cT_ ⟨(sv2,Hm,Hr2),e1▸hm,e2▸hq2⟩ rfl (p_ (c_ (c_ (c_ e_))) (s_ (c_ (c_ (c_ ca_))) (c_ (c_ M_)))) zt
        refine Zz 9 ?_
        refine Y_ (hP_ x x.r [] pm b2 b1 g pb kb ab ub ob ib rb sb fb ev lv Hm hm (by first|omega|(simp;omega))) rfl rfl zp zt rfl fun⟨HP1,hP1⟩=>?_
        dsimp only
        simp only[List.cons_append]
        refine Zz 6 ?_
        refine Y_ (hP_ x [] x.s (pm++[((Ky.mk x.kind x.r []),x)]) b2 b1 g pb kb ab ub ob ib rb sb fb ev lv HP1 hP1 (by first|omega|(simp;omega))) rfl rfl zp zt rfl fun⟨HP2,hP2⟩=>?_
        dsimp only
        simp only[List.cons_append]
        refine Zz 2 ?_
        have e1:((pm++[((Ky.mk x.kind x.r []),x)])++[((Ky.mk x.kind [] x.s),x)])=pm++cH_ x:=by simp[cH_, *]
        have e2:lps=lps++as_ [x]:=by simp[as_, *]
        exact bX_ cT_ ⟨(lv,HP2,Hl),e1▸hP2,e2▸hl⟩ rfl zp zt
       refine Zz 8 ?_
       refine Y_ (hP_ x x.r [] pm b2 b1 g pb kb ab ub ob ib rb sb fb ev lv Hm hm (by first|omega|(simp;omega))) rfl rfl zp zt rfl fun⟨HP3,hP3⟩=>?_
       dsimp only
       simp only[List.cons_append]
       refine Zz 2 ?_
       have e1:(pm++[((Ky.mk x.kind x.r []),x)])=pm++cH_ x:=by simp[cH_, *]
       have e2:lps=lps++as_ [x]:=by simp[as_, *]
       exact bX_ cT_ ⟨(lv,HP3,Hl),e1▸hP3,e2▸hl⟩ rfl zp zt
      refine Zz 11 ?_
      refine Y_ (hP_ x x.r [] pm b2 b1 g pb kb ab ub ob ib rb sb fb ev lv Hm hm (by first|omega|(simp;omega))) rfl rfl zp zt rfl fun⟨HP4,hP4⟩=>?_
      dsimp only
      simp only[List.cons_append]
      refine Zz 2 ?_
      have e1:(pm++[((Ky.mk x.kind x.r []),x)])=pm++cH_ x:=by simp[cH_, *]
      have e2:lps=lps++as_ [x]:=by simp[as_, *]
      exact bX_ cT_ ⟨(lv,HP4,Hl),e1▸hP4,e2▸hl⟩ rfl zp zt
     refine Zz 9 ?_
     refine Y_ (hP_ x [] x.a pm b2 b1 g pb kb ab ub ob ib rb sb fb ev lv Hm hm (by first|omega|(simp;omega))) rfl rfl zp zt rfl fun⟨HP5,hP5⟩=>?_
     dsimp only
     simp only[List.cons_append]
     refine Zz 8 ?_
     refine Y_ (hP_ x x.r x.a (pm++[((Ky.mk x.kind [] x.a),x)]) b2 b1 g pb kb ab ub ob ib rb sb fb ev lv HP5 hP5 (by first|omega|(simp;omega))) rfl rfl zp zt rfl fun⟨HP6,hP6⟩=>?_
     dsimp only
     simp only[List.cons_append]
     refine Zz 2 ?_
     have e1:((pm++[((Ky.mk x.kind [] x.a),x)])++[((Ky.mk x.kind x.r x.a),x)])=pm++cH_ x:=by simp[cH_, *]
     have e2:lps=lps++as_ [x]:=by simp[as_, *]
     exact bX_ cT_ ⟨(lv,HP6,Hl),e1▸hP6,e2▸hl⟩ rfl zp zt
    refine Zz 9 ?_
    refine Y_ (hP_ x [] x.a pm b2 b1 g pb kb ab ub ob ib rb sb fb ev lv Hm hm (by first|omega|(simp;omega))) rfl rfl zp zt rfl fun⟨HP7,hP7⟩=>?_
    dsimp only
    simp only[List.cons_append]
    refine Zi 8 (fun hr10=>?_) fun hr10=>?_
    ·refine Zz 5 ?_
     have e1:(pm++[((Ky.mk x.kind [] x.a),x)])=pm++cH_ x:=by simp[cH_, *]
     have e2:lps=lps++as_ [x]:=by simp[as_, *]
     exact bX_ cT_ ⟨(lv,HP7,Hl),e1▸hP7,e2▸hl⟩ rfl zp zt
    refine Zz 7 ?_
    refine Y_ (hP_ x [] x.b (pm++[((Ky.mk x.kind [] x.a),x)]) b2 b1 g pb kb ab ub ob ib rb sb fb ev lv HP7 hP7 (by first|omega|(simp;omega))) rfl rfl zp zt rfl fun⟨HP8,hP8⟩=>?_
    dsimp only
    simp only[List.cons_append]
    refine Zz 2 ?_
    have e1:((pm++[((Ky.mk x.kind [] x.a),x)])++[((Ky.mk x.kind [] x.b),x)])=pm++cH_ x:=by simp[cH_, *]
    have e2:lps=lps++as_ [x]:=by simp[as_, *]
    exact bX_ cT_ ⟨(lv,HP8,Hl),e1▸hP8,e2▸hl⟩ rfl zp zt
   refine Zz 8 ?_
   refine Y_ (hP_ x [] x.a pm b2 b1 g pb kb ab ub ob ib rb sb fb ev lv Hm hm (by first|omega|(simp;omega))) rfl rfl zp zt rfl fun⟨HP9,hP9⟩=>?_
   dsimp only
   simp only[List.cons_append]
   refine Zz 2 ?_
   have e1:(pm++[((Ky.mk x.kind [] x.a),x)])=pm++cH_ x:=by simp[cH_, *]
   have e2:lps=lps++as_ [x]:=by simp[as_, *]
   exact bX_ cT_ ⟨(lv,HP9,Hl),e1▸hP9,e2▸hl⟩ rfl zp zt
  refine Zz 11 ?_
  refine Y_ (hP_ x [] x.a pm b2 b1 g pb kb ab ub ob ib rb sb fb ev lv Hm hm (by first|omega|(simp;omega))) rfl rfl zp zt rfl fun⟨HP10,hP10⟩=>?_
  dsimp only
  simp only[List.cons_append]
  refine Zz 2 ?_
  have e1:(pm++[((Ky.mk x.kind [] x.a),x)])=pm++cH_ x:=by simp[cH_, *]
  have e2:lps=lps++as_ [x]:=by simp[as_, *]
  exact bX_ cT_ ⟨(lv,HP10,Hl),e1▸hP10,e2▸hl⟩ rfl zp zt
 refine Zz 11 ?_
 refine Y_ (hP_ x [] x.a pm b2 b1 g pb kb ab ub ob ib rb sb fb ev lv Hm hm (by first|omega|(simp;omega))) rfl rfl zp zt rfl fun⟨HP11,hP11⟩=>?_
 dsimp only
 simp only[List.cons_append]
 refine Zz 2 ?_
 have e1:(pm++[((Ky.mk x.kind [] x.a),x)])=pm++cH_ x:=by simp[cH_, *]
 have e2:lps=lps++as_ [x]:=by simp[as_, *]
 exact bX_ cT_ ⟨(lv,HP11,Hl),e1▸hP11,e2▸hl⟩ rfl zp zt
structure NewE where
  g:Nat
  pb:Nat
  kb:Nat
  ab:Nat
  ub:Nat
  ob:Nat
  ib:Nat
  rb:Nat
  sb:Nat
  fb:Nat
  lv:Value
  hm:Hp
  hl:Hp
def NewE.ok (ps:List Pc) (y:NewE):Prop:=dZ_ Ky.val Pc.cells 58 10 (aN_ ps) y.pb y.hm∧zR 9 1 aE_ y.lv (as_ ps) y.hl
def NewE.own (y:NewE):Hp:=(y.g,.cells #[.map (some y.pb),y.lv,.map (some y.kb),.nilFunc,.map (some y.ab),.map (some y.ub),.map (some y.ob),.map (some y.ib),.map (some y.rb),.map (some y.sb),.map (some y.fb)] 125 (0,0))::(y.kb,.map #[] 0)::(y.ab,.map #[] 0)::(y.ub,.map #[] 0)::(y.ob,.map #[] 0)::(y.ib,.map #[] 0)::(y.rb,.map #[] 0)::(y.sb,.map #[] 0)::(y.fb,.map #[] 0)::(y.hm++y.hl)
theorem fV_ {p:List Pc} {i:Nat} {x:Pc} (h:p[i]? = some x):uniq [] (List.take (i+1) p)=if x.zf∈uniq [] (List.take i p) then uniq [] (List.take i p) else uniq [] (List.take i p)++[x.zf]:=by
  have key:∀ (l:List Pc) (r:List Pc),uniq l (r++[x])=if x.zf∈uniq l r then uniq l r else uniq l r++[x.zf]:=by
    intro l r
    induction r generalizing l with
    | nil=>rfl
    | cons y r ih=>exact ih _
  rw[List.take_add_one,h,Option.toList_some]
  exact key _ _
theorem sm_ (l:List Pc) (x:Pc):aN_ (l++[x])=aN_ l++cH_ x:=by simp[aN_]
theorem nH_ (l:List Pc) (x:Pc):as_ (l++[x])=as_ l++as_ [x]:=by simp[as_]
theorem tI_ (x:Pc):(cH_ x).length≤2:=by unfold cH_;(repeat' split)<;>simp
theorem lt_:∀ l:List Pc,(aN_ l).length≤2*l.length
  | []=>by simp[aN_]
  | x::l=>by
    have:=lt_ l
    have h2:=tI_ x
    simp only[aN_,List.flatMap_cons,List.length_append,List.length_cons]at this ⊢
    omega
theorem kv_ (l:List Pc):(as_ l).length≤l.length:=by
  simp only[as_,List.length_map];exact List.length_filter_le _ _
theorem pr_ (p:List Pc) (pad:Option Addr) (pcap:Nat) (hp:p.length≤100000000):Tri Tryz.prog 69 #[.slice pad (List.length p) pcap] [] [al_ pad (List.flatMap Pc.cells p)] (fun y:{y:NewE // y.ok (uniq [] p)}=>zp_ y.1.g 0) (fun y=>y.1.own) (fun _=>[]):=by
 refine l_ Tryz.func69 rfl rfl Tryz.ntmps69 rfl fun v0=>?_
 refine Zz 7 ?_
 refine cd_ rfl fun b1=>cd_ rfl fun b2=>cd_ rfl fun b3=>cd_ rfl fun b4=>cd_ rfl fun b5=>cd_ rfl fun b6=>cd_ rfl fun b7=>cd_ rfl fun b8=>cd_ rfl fun b9=>d_ (w_ uY_ rfl rfl) rfl ?_
 refine U_ rfl rfl fun b10=>Zz 5 ?_
 refine cd_ rfl fun b11=>Zz 12 ?_
 refine ai_ (ι:={y:Nat×Array MapEntry×Nat×Hp×Value×Hp // y.1≤List.length p∧SetE Pc.val y.2.1 (uniq [] (List.take y.1 p))∧dZ_ Ky.val Pc.cells 58 10 (aN_ (uniq [] (List.take y.1 p))) b1 y.2.2.2.1∧zR 9 1 aE_ y.2.2.2.2.1 (as_ (uniq [] (List.take y.1 p))) y.2.2.2.2.2}) (fun y=>[(3,zp_ b10 0),(4,.map (some b11)),(19,.slice pad (List.length p) pcap),(20,.int .i64 (List.length p:Int)),(21,.int .i64 (y.1.1:Int))]) (fun y=>((b10,.cells #[.map (some b1),y.1.2.2.2.2.1,.map (some b2),.nilFunc,.map (some b3),.map (some b4),.map (some b5),.map (some b6),.map (some b7),.map (some b8),.map (some b9)] 125 (0,0))::((b11,.map y.1.2.1 y.1.2.2.1)::((b2,.map #[] 0)::((b3,.map #[] 0)::((b4,.map #[] 0)::((b5,.map #[] 0)::((b6,.map #[] 0)::((b7,.map #[] 0)::((b8,.map #[] 0)::((b9,.map #[] 0)::(y.1.2.2.2.1++y.1.2.2.2.2.2)))))))))))) (fun y=>[al_ pad (List.flatMap Pc.cells p)]) (fun y=>List.length p - y.1.1) ⟨((0:Nat),#[],0,[(b1,.map #[] 0)],(.slice none 0 0),[]),by simp,by exact SetE.nil,by exact dZ_.nil _ _,(aL_.nil 9 1)⟩ zl zp zh ?_
 rintro ⟨⟨i,es,cs,Hm,sv_L,H_L⟩,hi,hE,hm,hr_L⟩
 dsimp only at hi hE hm hr_L ⊢
 have hbu:=ja_ (List.take i p) []
 have hbt:=List.length_take_le i p
 simp only[List.length_nil]at hbu
 have hbp:(aN_ (uniq [] (List.take i p))).length≤900000000:=by have:=lt_ (uniq [] (List.take i p));omega
 have hbl:(as_ (uniq [] (List.take i p))).length≤900000000:=by have:=kv_ (uniq [] (List.take i p));omega
 refine Zi 2 (fun hr1=>?_) fun hr1=>?_
 ·refine Zz 13 ?_
  have e9:List.take i p=p:=List.take_of_length_le (by omega)
  rw[e9]at hm hr_L
  exact N_ Tryz.results69 ⟨NewE.mk b10 b1 b2 b3 b4 b5 b6 b7 b8 b9 sv_L Hm H_L,hm,hr_L⟩ rfl (p_ e_ (p_ (c_ e_) (p_ (c_ e_) (p_ (c_ e_) (p_ (c_ e_) (p_ (c_ e_) (p_ (c_ e_) (p_ (c_ e_) (p_ (c_ e_) (s_ (c_ o_) M_)))))))))) zt
 obtain⟨hlx1,x1,hx1,hmx1⟩:=zge (show i<List.length p by omega)
 refine Zz 12 ?_
 refine K_ Z_ rfl fun b12=>x_ 0 F_ rfl rfl rfl rfl rfl rfl (Zz 5 ?_)
 refine x_ 0 ao_ rfl rfl rfl rfl rfl rfl (Zz 6 ?_)
 refine D_ (en_ (k:=Pc.zf x1) (q:=(uniq [] (List.take i p))) uf_ iw_ cR_ rfl rfl hE (fun v h _=>(h.own _ (List.mem_of_getElem? (i:=2) rfl)).1)) rfl fun r2 hr2=>d_ (bb_ rfl) rfl (Zz 2 ?_)
 cases r2
 ·replace hr2:=zdf hr2
  refine Zz 5 ?_
  refine ji_ (k:=Pc.zf x1) (q:=(uniq [] (List.take i p))) 2 uf_ (.inr rfl) iw_ rfl rfl rfl rfl hE fun es1 c1 hE1=>Zz 5 ?_
  refine f_ (sZ_ x1.zf (aN_ (uniq [] (List.take i p))) (as_ (uniq [] (List.take i p))) b10 b1 b2 b3 b4 b5 b6 b7 b8 b9 .nilFunc sv_L Hm H_L hm hr_L  hbp hbl) rfl (p_ (c_ e_) (s_ (c_ (c_ (c_ (c_ (c_ (c_ (c_ (c_ (c_ (c_ o_)))))))))) (c_ (c_ (c_ (c_ (c_ (c_ (c_ (c_ (c_ M_))))))))))) zt rfl fun⟨⟨lv1,HA1,HA2⟩,hA1,hA2⟩=>?_
  dsimp only
  simp only[List.cons_append,List.append_assoc]
  refine Zz 2 ?_
  refine C_ (aB_ e_ (aB_ (i_ (i_ e_)) (aB_ (i_ (i_ e_)) (aB_ (i_ (i_ e_)) (aB_ (i_ (i_ e_)) (aB_ (i_ (i_ e_)) (aB_ (i_ (i_ e_)) (aB_ (i_ (i_ e_)) (aB_ (i_ (i_ e_)) (aB_ (i_ (i_ e_)) (bD_ (i_ ca_)))))))))))) (Zz 5 ?_)
  exact J_ ⟨(i+1,es1,c1,HA1,lv1,HA2),hlx1,by rw[fV_ hx1];exact hE1,by rw[fV_ hx1,if_neg (by assumption),sm_];exact hA1,(by rw[fV_ hx1,if_neg (by assumption),nH_];exact hA2)⟩ (by dsimp only;omega) zl zp zh
 replace hr2:=zdt hr2
 refine Zz 8 ?_
 exact J_ ⟨(i+1,es,cs,Hm,sv_L,H_L),hlx1,by rw[fV_ hx1,if_pos (by assumption)];exact hE,by rw[fV_ hx1,if_pos (by assumption)];exact hm,(by rw[fV_ hx1,if_pos (by assumption)];exact hr_L)⟩ (by dsimp only;omega) zl (p_ (c_ e_) (p_ (c_ e_) (p_ (c_ e_) (p_ (c_ e_) (p_ (c_ e_) (p_ (c_ e_) (p_ (c_ e_) (p_ (c_ e_) (p_ (c_ e_) (p_ (c_ e_) (s_ (c_ o_) M_))))))))))) zh
end Go.Proofs.YtamklbgaipakfaaGreatDoor
namespace Go.Proofs.YtamklbgaipakfaaGreatDoor
open Go Go.Sx Go.Proofs
attribute [local irreducible] Code.wp wpList wpAnyH
open Go.Vs
theorem kZ_ {P:Program} {N:Nf} {fr:Fr} {H:Hp} {Γ:List Fct} {ty:TypeId} {K:Type} [DecidableEq K] {kv:K→Value} {t kt et:TypeId} {x:Operand} {mb c:Nat} {es:Array MapEntry} {q:List K} (hE:SetE kv es q) (hu:∀ w,(underlying t).run P w=.ok (.map kt et) w) (hx:Fr.ev fr x=some (.map (some mb))) (hm:∀ v,v.sat H→au_ Γ v→v.w.heap[mb]? = some (.map es c)) :
    Yld P N fr H Γ (.call ⟨.builtin .len,#[x],#[t]⟩) ty (.int .i64 (q.length:Int)):=by
  rw[← hE.size];exact tf_ hu hx hm
def andF (a b:Fct):Fct where
  p v:=a.p v∧b.p v
  mono:=fun v v' h ⟨h1,h2⟩=>⟨a.mono v v' h h1,b.mono v v' h h2⟩
def StA (b9 kb fb:Nat) (nw fm:List Fc) (H:Hp):Prop:=∃ sv es c es' c' q Hq,H=(b9,.cells #[sv] 59 (0,0))::(kb,.map es c)::([(fb,.map es' c')]++Hq)∧aL_ 67 6 sv nw.length (nw.flatMap Fc.cells) Hq∧SetE Fc.val es nw∧SetE Fc.val es' q∧∀ f,f∈q↔f∈fm
theorem vO_ (f:Fc) (nw fm:List Fc) (m:Nat) (hm:m≤65536) (g b7 b8 b9 kb fb:Nat) (c0 c1 c3 c4 c5 c6 c7 c8 c9 c10 sv:Value) (es es2:Array MapEntry) (c c2:Nat) (q:List Fc) (Hq:Hp) (hr:aL_ 67 6 sv nw.length (nw.flatMap Fc.cells) Hq) (hE:SetE Fc.val es nw) (hF:SetE Fc.val es2 q) (hq:∀ f,f∈q↔f∈fm):Tri Tryz.prog 70 #[Fc.val f,zp_ b7 0,zp_ b8 0,zp_ b9 0] ((b9,.cells #[sv] 59 (0,0))::(kb,.map es c)::([(fb,.map es2 c2)]++Hq)) [bi_ b7 (.cells #[zp_ g 0] 116 (0,0)),bi_ b8 (.cells #[.int .i64 (m:Int)] 3 (0,0)),bi_ g (.cells #[c0,c1,.map (some kb),c3,c4,c5,c6,c7,c8,c9,c10] 125 (0,0))] (fun _:{H:Hp // StA b9 kb fb (bm_ m f nw) fm H}=>.tuple #[]) (fun y=>y.1) (fun _=>[]):=by
 refine l_ Tryz.func70 rfl rfl Tryz.ntmps70 rfl fun v0=>?_
 refine Zz 2 ?_
 refine U_ rfl rfl fun b1=>Zz 4 ?_
 refine z_ 8 [0,1,2,3,4,5,6,7] zk zs (Zz 4 ?_)
 refine P_ rfl (kZ_ hE aO_ rfl (fun v h _=>(h.own _ (List.mem_of_getElem? (i:=2) rfl)).1)) rfl (Zi 1 (fun hr1=>?_) fun hr1=>?_)
 ·refine Zz 2 ?_
  refine z_ 0 [8,9,10,11,12,13,14,15] zk zs (Zz 14 ?_)
  have e0:bm_ m f nw=nw:=by unfold bm_;rw[if_neg (by rintro ⟨q1,q2⟩;first|omega|exact absurd (by assumption) q2)]
  exact bX_ Tryz.results70 ⟨_,sv,es,c,es2,c2,q,Hq,rfl,by rw[e0];exact hr,by rw[e0];exact hE,hF,hq⟩ rfl zp zt
 refine Zz 2 ?_
 refine z_ 0 [8,9,10,11,12,13,14,15] zk zs (Zz 5 ?_)
 refine gO_ rfl rfl rfl (en_ (k:=f) jr_ aO_ cR_ rfl rfl hE (fun v h _=>(h.own _ (List.mem_of_getElem? (i:=2) rfl)).1)) rfl fun r2 hr2=>bZ_ rfl rfl rfl (bb_ rfl) rfl (Zz 4 ?_)
 cases r2
 ·replace hr2:=zdf hr2
  refine Zz 2 ?_
  refine am_ ((b1,.cells #[.int .i64 f.kind,str f.a,str f.b,str f.r,.int .i64 f.lo,.int .i64 f.hi] 67 (0,0))::((b9,.cells #[sv] 59 (0,0))::[])) zk ?_
  refine z_ 1 [0,1,2,3,4] zk zs (Zz 6 ?_)
  refine j_ 5 rfl zk (ji_ (k:=f) 2 jr_ (.inr rfl) aO_ rfl rfl rfl rfl hE fun ej1 cj1 hj1=>Zz 8 ?_)
  refine E_ aw_ aA_ aQ_ rfl rfl rfl rfl rfl rfl fun b2=>?_
  refine aG_ (news:=List.flatMap Fc.cells [f]) ob_ hr rfl rfl (c_ (c_ (c_ (c_ ca_)))) rfl (bM_ 0 rfl) (fun u hu=>bd_ Fc.cells_one hu) (by simp only[maxLen];omega) (by omega) rfl fun sv1 Hr1 hr1=>?_
  have hq1:=zsa hr1
  refine C_ (aB_ (i_ e_) (aB_ (i_ e_) (aB_ (i_ e_) (bD_ (i_ e_))))) (cI_ 2 hq1 Tryz.sizeOf59 rfl rfl rfl rfl (Zz 2 ?_))
  have e0:bm_ m f nw=nw++[f]:=by unfold bm_;rw[if_pos ⟨by omega,by assumption⟩]
  exact bX_ Tryz.results70 ⟨_,sv1,ej1,cj1,es2,c2,q,Hr1,rfl,by rw[e0];exact hq1,by rw[e0];rw[if_neg (by assumption)]at hj1;exact hj1,hF,hq⟩ rfl (p_ (c_ (c_ e_)) (p_ (c_ (c_ e_)) (s_ (c_ (c_ ca_)) (c_ M_)))) zt
 replace hr2:=zdt hr2
 refine Zz 3 ?_
 have e0:bm_ m f nw=nw:=by unfold bm_;rw[if_neg (by rintro ⟨q1,q2⟩;first|omega|exact absurd (by assumption) q2)]
 exact bX_ Tryz.results70 ⟨_,sv,es,c,es2,c2,q,Hq,rfl,by rw[e0];exact hr,by rw[e0];exact hE,hF,hq⟩ rfl zp zt
end Go.Proofs.YtamklbgaipakfaaGreatDoor
namespace Go.Proofs.YtamklbgaipakfaaGreatDoor
open Go Go.Sx Go.Proofs
attribute [local irreducible] Code.wp wpList wpAnyH
open Go.Vs
def EA (m:Nat) (hm:m≤65536) (B:EngB) (b7 b8 b9 kb fb:Nat):Emt Tryz.prog 67 where
 stp:=bm_ m
 kof:=idk
 St:=StA b9 kb fb
 fn:=70
 caps:=[zp_ b7 0,zp_ b8 0,zp_ b9 0]
 ef:=andF (bi_ b7 (.cells #[zp_ B.g 0] 116 (0,0))) (andF (bi_ b8 (.cells #[.int .i64 (m:Int)] 3 (0,0))) (bi_ B.g (.cells #[.map (some B.pb),.slice B.lad B.lps.length B.lcap,.map (some kb),.func (.func 70) #[] #[zp_ b7 0,zp_ b8 0,zp_ b9 0],.map (some B.ab),.map (some B.ub),.map (some B.ob),.map (some B.ib),.map (some B.rb),.map (some B.sb),.map (some fb)] 125 (0,0))))
 kb:=kb
 fb:=fb
 grows:=fO_ m
 emit:=fun f nw fm H hS=>by
   obtain⟨sv,es,c,es2,c2,q,Hq,rfl,h1,h2,h3,h4⟩:=hS
   exact oH_ [] (vO_ f nw fm m hm B.g b7 b8 b9 kb fb _ _ _ _ _ _ _ _ _ _ sv es es2 c c2 q Hq h1 h2 h3 h4) (fun v _ h=>⟨h.1.1,h.1.2.1,h.1.2.2,trivial⟩)
 known:=fun hS=>by
   obtain⟨sv,es,c,es2,c2,q,Hq,rfl,h1,h2,h3,h4⟩:=hS
   exact⟨es,c,by simp,h2⟩
 firm:=fun hS=>by
   obtain⟨sv,es,c,es2,c2,q,Hq,rfl,h1,h2,h3,h4⟩:=hS
   exact⟨es2,c2,q,by simp,h3,h4⟩
 setf:=fun {nw fm H} f hS=>by
   obtain⟨sv,es,c,es2,c2,q,Hq,rfl,h1,h2,h3,h4⟩:=hS
   refine⟨es2,c2,q,(b9,.cells #[sv] 59 (0,0))::(kb,.map es c)::Hq,bD_ zp,h3,h4,fun es' c' h5=>⟨(b9,.cells #[sv] 59 (0,0))::(kb,.map es c)::([(fb,.map es' c')]++Hq),⟨sv,es,c,es',c',_,Hq,rfl,h1,h2,h5,?_⟩,bD_ zp⟩⟩
   intro z
   split
   · rename_i hz;rw[h4,List.mem_cons];constructor
     · exact .inr
     · rintro (rfl|h)
       · exact (h4 _).1 hz
       · exact h
   · rw[List.mem_append,List.mem_singleton,h4,List.mem_cons,or_comm]
end Go.Proofs.YtamklbgaipakfaaGreatDoor
namespace Go.Proofs.YtamklbgaipakfaaGreatDoor
open Go Go.Sx Go.Proofs
attribute [local irreducible] Code.wp wpList wpAnyH
open Go.Vs
def fvC (v:Value):List Value:=[v]
theorem ir_ (v:Value):(fvC v).length=1:=rfl
theorem rK_ {P:Program} {N:Nf} {fr:Fr} {H:Hp} {Γ:List Fct} {ty:TypeId} {t e:TypeId} {n sz:Nat} {parts:List (Nat×Operand)} {vs:List (Nat×Value)} {z cs:List Value} (hz:∀ w,(zeroValue t).run P w=.ok (.agg z.toArray) w) (hu:∀ w,(underlying t).run P w=.ok (.array n e) w) (hs:∀ w,(sizeOf e).run P w=.ok sz w) (hx:Fr.evp fr parts=some vs) (hf:kA_ (fun i=>some (i*sz,sz)) z vs=some cs) :
    Yld P N fr H Γ (.build t parts.toArray) ty (.agg cs.toArray) :=
  mt_ (fun a h1 w=>by
    have:=h1.evp hx
    rw[List.map_toArray,this]
    have hf':=hX_ _ _ _ _ hf
    simp only[Instr.build,Sem.run_bind,hz,Result.andThen_ok,hu,hs,Value.cells,hf',Sem.run_pure])
def rlV (g:Nat) (k:Nat):List Value:=if k=1 then [(Value.func (.func 140) #[zp_ g 0] #[]),(Value.func (.func 141) #[zp_ g 0] #[]),(Value.func (.func 142) #[zp_ g 0] #[]),(Value.func (.func 143) #[zp_ g 0] #[]),(Value.func (.func 144) #[zp_ g 0] #[]),(Value.func (.func 145) #[zp_ g 0] #[])] else if k=2 then [(Value.func (.func 146) #[zp_ g 0] #[]),(Value.func (.func 147) #[zp_ g 0] #[]),(Value.func (.func 148) #[zp_ g 0] #[]),(Value.func (.func 149) #[zp_ g 0] #[])] else [(Value.func (.func 150) #[zp_ g 0] #[]),(Value.func (.func 151) #[zp_ g 0] #[])]
theorem vd_ (g:Nat):Tri Tryz.prog 73 #[zp_ g 0] [] [] (fun y:Nat×Nat×Nat=>.agg #[.slice none 0 0,.slice (some ⟨y.1,0,none⟩) 6 6,.slice (some ⟨y.2.1,0,none⟩) 4 4,.slice (some ⟨y.2.2,0,none⟩) 2 2]) (fun _=>[]) (fun y=>[al_ (some ⟨y.1,0,none⟩) (List.flatMap fvC (rlV g 1)),al_ (some ⟨y.2.1,0,none⟩) (List.flatMap fvC (rlV g 2)),al_ (some ⟨y.2.2,0,none⟩) (List.flatMap fvC (rlV g 3))]):=by
  refine l_ Tryz.func73 rfl rfl Tryz.ntmps73 rfl fun v0=>?_
  refine Zz 2 ?_
  refine K_ Tryz.zeroValue127 rfl fun b1=>Zz 5 ?_
  refine d_ (bV_ (us:=[zp_ g 0]) (vs:=[]) rfl rfl) rfl (Zz 1 ?_)
  refine d_ (bV_ (us:=[zp_ g 0]) (vs:=[]) rfl rfl) rfl (Zz 1 ?_)
  refine d_ (bV_ (us:=[zp_ g 0]) (vs:=[]) rfl rfl) rfl (Zz 1 ?_)
  refine d_ (bV_ (us:=[zp_ g 0]) (vs:=[]) rfl rfl) rfl (Zz 1 ?_)
  refine d_ (bV_ (us:=[zp_ g 0]) (vs:=[]) rfl rfl) rfl (Zz 1 ?_)
  refine d_ (bV_ (us:=[zp_ g 0]) (vs:=[]) rfl rfl) rfl (E_ bj_ fc_ Tryz.zeroValue120 rfl rfl rfl rfl rfl rfl fun b2=>?_)
  refine ap_ (List.flatMap fvC [(Value.func (.func 140) #[zp_ g 0] #[]),(Value.func (.func 141) #[zp_ g 0] #[]),(Value.func (.func 142) #[zp_ g 0] #[]),(Value.func (.func 143) #[zp_ g 0] #[]),(Value.func (.func 144) #[zp_ g 0] #[]),(Value.func (.func 145) #[zp_ g 0] #[])]) e_ rfl ?_
  refine Zz 1 ?_
  refine d_ (bV_ (us:=[zp_ g 0]) (vs:=[]) rfl rfl) rfl (Zz 1 ?_)
  refine d_ (bV_ (us:=[zp_ g 0]) (vs:=[]) rfl rfl) rfl (Zz 1 ?_)
  refine d_ (bV_ (us:=[zp_ g 0]) (vs:=[]) rfl rfl) rfl (Zz 1 ?_)
  refine d_ (bV_ (us:=[zp_ g 0]) (vs:=[]) rfl rfl) rfl (E_ bj_ fc_ Tryz.zeroValue120 rfl rfl rfl rfl rfl rfl fun b3=>?_)
  refine ap_ (List.flatMap fvC [(Value.func (.func 146) #[zp_ g 0] #[]),(Value.func (.func 147) #[zp_ g 0] #[]),(Value.func (.func 148) #[zp_ g 0] #[]),(Value.func (.func 149) #[zp_ g 0] #[])]) e_ rfl ?_
  refine Zz 1 ?_
  refine d_ (bV_ (us:=[zp_ g 0]) (vs:=[]) rfl rfl) rfl (Zz 1 ?_)
  refine d_ (bV_ (us:=[zp_ g 0]) (vs:=[]) rfl rfl) rfl (E_ bj_ fc_ Tryz.zeroValue120 rfl rfl rfl rfl rfl rfl fun b4=>?_)
  refine ap_ (List.flatMap fvC [(Value.func (.func 150) #[zp_ g 0] #[]),(Value.func (.func 151) #[zp_ g 0] #[])]) e_ rfl ?_
  refine d_ (rK_ Tryz.zeroValue127 sb_ Tryz.sizeOf126 rfl rfl) rfl (x_ 0 Tryz.sizeOf127 rfl rfl rfl rfl rfl rfl (Zz 3 ?_))
  exact fE_ (b2,b3,b4) (fun aa v h1 h2=>dV_ (us:=[.slice none 0 0,.slice (some ⟨b2,0,none⟩) (List.length [(Value.func (.func 140) #[zp_ g 0] #[]),(Value.func (.func 141) #[zp_ g 0] #[]),(Value.func (.func 142) #[zp_ g 0] #[]),(Value.func (.func 143) #[zp_ g 0] #[]),(Value.func (.func 144) #[zp_ g 0] #[]),(Value.func (.func 145) #[zp_ g 0] #[])]) 6,.slice (some ⟨b3,0,none⟩) (List.length [(Value.func (.func 146) #[zp_ g 0] #[]),(Value.func (.func 147) #[zp_ g 0] #[]),(Value.func (.func 148) #[zp_ g 0] #[]),(Value.func (.func 149) #[zp_ g 0] #[])]) 4,.slice (some ⟨b4,0,none⟩) (List.length [(Value.func (.func 150) #[zp_ g 0] #[]),(Value.func (.func 151) #[zp_ g 0] #[])]) 2]) 0 Tryz.results73 Tryz.isAgg127 Tryz.sizeOf127 rfl rfl rfl aa v h1 h2) g_ zf
end Go.Proofs.YtamklbgaipakfaaGreatDoor
namespace Go.Proofs.YtamklbgaipakfaaGreatDoor
open Go Go.Sx Go.Proofs
attribute [local irreducible] Code.wp wpList wpAnyH
open Go.Vs
theorem fM_ (B:EngB) (E:Emt Tryz.prog 67) (A0:EngA) (pm:List (Ky×Pc)) (x:Ix) (f:Fc) (nw fm:List Fc) (Hs:Hp) (hS:E.St nw fm Hs) (Ha Hu Ho Hi Hr Hm:Hp) (hI:IxO 9 67 B x ⟨Ha,Hu,Ho,Hi,Hr,Hm⟩) {n:FuncId} {args:Array Value} {ret:Hp→Prop} (hT:∀ A:EngA,A.p=A0.p→Tri Tryz.prog n args Hs [gF B E,pF B pm A,aF B x A,uF B x A,oF B x A,iF B x A,rF B x A,sF B x A,E.ef] (fun _:{H':Hp // ret H'}=>.tuple #[]) (fun y=>y.1) (fun _=>[])) :
    Tri Tryz.prog n args ((Ha++(Hu++(Ho++(Hi++(Hr++Hm)))))++Hs) [gF B E,pF B pm A0,E.ef] (fun _:{H':Hp // ret H'}=>.tuple #[]) (fun y=>(Ha++(Hu++(Ho++(Hi++(Hr++Hm)))))++y.1) (fun _=>[]):=by
  obtain⟨ha,hu,ho,hi,hr,hm⟩:=hI
  dsimp only at ha hu ho hi hr hm
  obtain⟨a1,k1⟩:=ha.lent (P:=Tryz.prog) jq_
  obtain⟨a2,k2⟩:=hu.lent (P:=Tryz.prog) jq_
  obtain⟨a3,k3⟩:=ho.lent (P:=Tryz.prog) di_
  obtain⟨a4,k4⟩:=hi.lent (P:=Tryz.prog) di_
  obtain⟨a5,k5⟩:=hr.lent (P:=Tryz.prog) di_
  obtain⟨a6,k6⟩:=hm.lent (P:=Tryz.prog) di_
  refine oH_ _ (hT ⟨A0.p,a1,a2,a3,a4,a5,a6⟩ rfl) fun v hB h=>⟨h.1,h.2.1,k1 v fun p hp=>hB p (by simp[hp]),k2 v fun p hp=>hB p (by simp[hp]),k3 v fun p hp=>hB p (by simp[hp]),k4 v fun p hp=>hB p (by simp[hp]),k5 v fun p hp=>hB p (by simp[hp]),k6 v fun p hp=>hB p (by simp[hp]),h.2.2.1,trivial⟩
theorem rl10_c (B:EngB) (E:Emt Tryz.prog 67) (A0:EngA) (pm:List (Ky×Pc)) (x:Ix) (f:Fc) (nw fm:List Fc) (Hs:Hp) (hS:E.St nw fm Hs) (Ha Hu Ho Hi Hr Hm:Hp) (hI:IxO 9 67 B x ⟨Ha,Hu,Ho,Hi,Hr,Hm⟩) (hpl:∀ k,(lat pm k).length≤1000000000) (hxl:∀ k,(lat x.above k).length≤1000000000∧(lat x.under k).length≤1000000000) (hyl:∀ k,(lat x.frm k).length≤1000000000∧(lat x.into k).length≤1000000000∧(lat x.ranges k).length≤1000000000∧(lat x.firms k).length≤1000000000) (hf:f.kind=3→-1099511627776≤f.lo∧f.lo≤f.hi∧f.hi≤1099511627776) (hq:f.kind=3→∀ y∈lat pm (Ky.mk 9 f.r []),-1099511627776≤y.lo∧y.lo≤y.hi∧y.hi≤1099511627776) (hk:f.kind=1):Tri Tryz.prog 140 #[zp_ B.g 0,f.val] ((Ha++(Hu++(Ho++(Hi++(Hr++Hm)))))++Hs) [gF B E,pF B pm A0,E.ef] (fun _:{H':Hp // E.St (rl E.stp E.kof pm x f 0 (nw,fm)).1 (rl E.stp E.kof pm x f 0 (nw,fm)).2 H'}=>.tuple #[]) (fun y=>(Ha++(Hu++(Ho++(Hi++(Hr++Hm)))))++y.1) (fun _=>[]):=by
  refine fM_ B E A0 pm x f nw fm Hs hS Ha Hu Ho Hi Hr Hm hI fun A hA=>?_
  have h:=sQ_ B E A pm x f nw fm Hs hS hpl hxl hyl
  have e:rl E.stp E.kof pm x f 0 (nw,fm)=_:=if_pos hk
  rw[e]
  exact h
theorem rl11_c (B:EngB) (E:Emt Tryz.prog 67) (A0:EngA) (pm:List (Ky×Pc)) (x:Ix) (f:Fc) (nw fm:List Fc) (Hs:Hp) (hS:E.St nw fm Hs) (Ha Hu Ho Hi Hr Hm:Hp) (hI:IxO 9 67 B x ⟨Ha,Hu,Ho,Hi,Hr,Hm⟩) (hpl:∀ k,(lat pm k).length≤1000000000) (hxl:∀ k,(lat x.above k).length≤1000000000∧(lat x.under k).length≤1000000000) (hyl:∀ k,(lat x.frm k).length≤1000000000∧(lat x.into k).length≤1000000000∧(lat x.ranges k).length≤1000000000∧(lat x.firms k).length≤1000000000) (hf:f.kind=3→-1099511627776≤f.lo∧f.lo≤f.hi∧f.hi≤1099511627776) (hq:f.kind=3→∀ y∈lat pm (Ky.mk 9 f.r []),-1099511627776≤y.lo∧y.lo≤y.hi∧y.hi≤1099511627776) (hk:f.kind=1):Tri Tryz.prog 141 #[zp_ B.g 0,f.val] ((Ha++(Hu++(Ho++(Hi++(Hr++Hm)))))++Hs) [gF B E,pF B pm A0,E.ef] (fun _:{H':Hp // E.St (rl E.stp E.kof pm x f 1 (nw,fm)).1 (rl E.stp E.kof pm x f 1 (nw,fm)).2 H'}=>.tuple #[]) (fun y=>(Ha++(Hu++(Ho++(Hi++(Hr++Hm)))))++y.1) (fun _=>[]):=by
  refine fM_ B E A0 pm x f nw fm Hs hS Ha Hu Ho Hi Hr Hm hI fun A hA=>?_
  have h:=both_c B E A pm x f nw fm Hs hS hpl hxl hyl
  have e:rl E.stp E.kof pm x f 1 (nw,fm)=_:=if_pos hk
  rw[e]
  exact h
theorem rl12_c (B:EngB) (E:Emt Tryz.prog 67) (A0:EngA) (pm:List (Ky×Pc)) (x:Ix) (f:Fc) (nw fm:List Fc) (Hs:Hp) (hS:E.St nw fm Hs) (Ha Hu Ho Hi Hr Hm:Hp) (hI:IxO 9 67 B x ⟨Ha,Hu,Ho,Hi,Hr,Hm⟩) (hpl:∀ k,(lat pm k).length≤1000000000) (hxl:∀ k,(lat x.above k).length≤1000000000∧(lat x.under k).length≤1000000000) (hyl:∀ k,(lat x.frm k).length≤1000000000∧(lat x.into k).length≤1000000000∧(lat x.ranges k).length≤1000000000∧(lat x.firms k).length≤1000000000) (hf:f.kind=3→-1099511627776≤f.lo∧f.lo≤f.hi∧f.hi≤1099511627776) (hq:f.kind=3→∀ y∈lat pm (Ky.mk 9 f.r []),-1099511627776≤y.lo∧y.lo≤y.hi∧y.hi≤1099511627776) (hk:f.kind=1):Tri Tryz.prog 142 #[zp_ B.g 0,f.val] ((Ha++(Hu++(Ho++(Hi++(Hr++Hm)))))++Hs) [gF B E,pF B pm A0,E.ef] (fun _:{H':Hp // E.St (rl E.stp E.kof pm x f 2 (nw,fm)).1 (rl E.stp E.kof pm x f 2 (nw,fm)).2 H'}=>.tuple #[]) (fun y=>(Ha++(Hu++(Ho++(Hi++(Hr++Hm)))))++y.1) (fun _=>[]):=by
  refine fM_ B E A0 pm x f nw fm Hs hS Ha Hu Ho Hi Hr Hm hI fun A hA=>?_
  have h:=some_c B E A pm x f nw fm Hs hS hpl hxl hyl
  have e:rl E.stp E.kof pm x f 2 (nw,fm)=_:=if_pos hk
  rw[e]
  exact h
theorem rl13_c (B:EngB) (E:Emt Tryz.prog 67) (A0:EngA) (pm:List (Ky×Pc)) (x:Ix) (f:Fc) (nw fm:List Fc) (Hs:Hp) (hS:E.St nw fm Hs) (Ha Hu Ho Hi Hr Hm:Hp) (hI:IxO 9 67 B x ⟨Ha,Hu,Ho,Hi,Hr,Hm⟩) (hpl:∀ k,(lat pm k).length≤1000000000) (hxl:∀ k,(lat x.above k).length≤1000000000∧(lat x.under k).length≤1000000000) (hyl:∀ k,(lat x.frm k).length≤1000000000∧(lat x.into k).length≤1000000000∧(lat x.ranges k).length≤1000000000∧(lat x.firms k).length≤1000000000) (hf:f.kind=3→-1099511627776≤f.lo∧f.lo≤f.hi∧f.hi≤1099511627776) (hq:f.kind=3→∀ y∈lat pm (Ky.mk 9 f.r []),-1099511627776≤y.lo∧y.lo≤y.hi∧y.hi≤1099511627776) (hk:f.kind=1):Tri Tryz.prog 143 #[zp_ B.g 0,f.val] ((Ha++(Hu++(Ho++(Hi++(Hr++Hm)))))++Hs) [gF B E,pF B pm A0,E.ef] (fun _:{H':Hp // E.St (rl E.stp E.kof pm x f 3 (nw,fm)).1 (rl E.stp E.kof pm x f 3 (nw,fm)).2 H'}=>.tuple #[]) (fun y=>(Ha++(Hu++(Ho++(Hi++(Hr++Hm)))))++y.1) (fun _=>[]):=by
  refine fM_ B E A0 pm x f nw fm Hs hS Ha Hu Ho Hi Hr Hm hI fun A hA=>?_
  have h:=qR_ B E A pm x f nw fm Hs hS hpl hxl hyl
  have e:rl E.stp E.kof pm x f 3 (nw,fm)=_:=if_pos hk
  rw[e]
  exact h
theorem rl14_c (B:EngB) (E:Emt Tryz.prog 67) (A0:EngA) (pm:List (Ky×Pc)) (x:Ix) (f:Fc) (nw fm:List Fc) (Hs:Hp) (hS:E.St nw fm Hs) (Ha Hu Ho Hi Hr Hm:Hp) (hI:IxO 9 67 B x ⟨Ha,Hu,Ho,Hi,Hr,Hm⟩) (hpl:∀ k,(lat pm k).length≤1000000000) (hxl:∀ k,(lat x.above k).length≤1000000000∧(lat x.under k).length≤1000000000) (hyl:∀ k,(lat x.frm k).length≤1000000000∧(lat x.into k).length≤1000000000∧(lat x.ranges k).length≤1000000000∧(lat x.firms k).length≤1000000000) (hf:f.kind=3→-1099511627776≤f.lo∧f.lo≤f.hi∧f.hi≤1099511627776) (hq:f.kind=3→∀ y∈lat pm (Ky.mk 9 f.r []),-1099511627776≤y.lo∧y.lo≤y.hi∧y.hi≤1099511627776) (hk:f.kind=1):Tri Tryz.prog 144 #[zp_ B.g 0,f.val] ((Ha++(Hu++(Ho++(Hi++(Hr++Hm)))))++Hs) [gF B E,pF B pm A0,E.ef] (fun _:{H':Hp // E.St (rl E.stp E.kof pm x f 4 (nw,fm)).1 (rl E.stp E.kof pm x f 4 (nw,fm)).2 H'}=>.tuple #[]) (fun y=>(Ha++(Hu++(Ho++(Hi++(Hr++Hm)))))++y.1) (fun _=>[]):=by
  refine fM_ B E A0 pm x f nw fm Hs hS Ha Hu Ho Hi Hr Hm hI fun A hA=>?_
  have h:=pN_ B E A pm x f nw fm Hs hS hpl hxl hyl
  have e:rl E.stp E.kof pm x f 4 (nw,fm)=_:=if_pos hk
  rw[e]
  exact h
theorem rl15_c (B:EngB) (E:Emt Tryz.prog 67) (A0:EngA) (pm:List (Ky×Pc)) (x:Ix) (f:Fc) (nw fm:List Fc) (Hs:Hp) (hS:E.St nw fm Hs) (Ha Hu Ho Hi Hr Hm:Hp) (hI:IxO 9 67 B x ⟨Ha,Hu,Ho,Hi,Hr,Hm⟩) (hpl:∀ k,(lat pm k).length≤1000000000) (hxl:∀ k,(lat x.above k).length≤1000000000∧(lat x.under k).length≤1000000000) (hyl:∀ k,(lat x.frm k).length≤1000000000∧(lat x.into k).length≤1000000000∧(lat x.ranges k).length≤1000000000∧(lat x.firms k).length≤1000000000) (hf:f.kind=3→-1099511627776≤f.lo∧f.lo≤f.hi∧f.hi≤1099511627776) (hq:f.kind=3→∀ y∈lat pm (Ky.mk 9 f.r []),-1099511627776≤y.lo∧y.lo≤y.hi∧y.hi≤1099511627776) (hk:f.kind=1):Tri Tryz.prog 145 #[zp_ B.g 0,f.val] ((Ha++(Hu++(Ho++(Hi++(Hr++Hm)))))++Hs) [gF B E,pF B pm A0,E.ef] (fun _:{H':Hp // E.St (rl E.stp E.kof pm x f 5 (nw,fm)).1 (rl E.stp E.kof pm x f 5 (nw,fm)).2 H'}=>.tuple #[]) (fun y=>(Ha++(Hu++(Ho++(Hi++(Hr++Hm)))))++y.1) (fun _=>[]):=by
  refine fM_ B E A0 pm x f nw fm Hs hS Ha Hu Ho Hi Hr Hm hI fun A hA=>?_
  have h:=uQ_ B E A pm x f nw fm Hs hS hpl hxl hyl
  have e:rl E.stp E.kof pm x f 5 (nw,fm)=_:=if_pos hk
  rw[e]
  exact h
theorem rl20_c (B:EngB) (E:Emt Tryz.prog 67) (A0:EngA) (pm:List (Ky×Pc)) (x:Ix) (f:Fc) (nw fm:List Fc) (Hs:Hp) (hS:E.St nw fm Hs) (Ha Hu Ho Hi Hr Hm:Hp) (hI:IxO 9 67 B x ⟨Ha,Hu,Ho,Hi,Hr,Hm⟩) (hpl:∀ k,(lat pm k).length≤1000000000) (hxl:∀ k,(lat x.above k).length≤1000000000∧(lat x.under k).length≤1000000000) (hyl:∀ k,(lat x.frm k).length≤1000000000∧(lat x.into k).length≤1000000000∧(lat x.ranges k).length≤1000000000∧(lat x.firms k).length≤1000000000) (hf:f.kind=3→-1099511627776≤f.lo∧f.lo≤f.hi∧f.hi≤1099511627776) (hq:f.kind=3→∀ y∈lat pm (Ky.mk 9 f.r []),-1099511627776≤y.lo∧y.lo≤y.hi∧y.hi≤1099511627776) (hk:f.kind=2):Tri Tryz.prog 146 #[zp_ B.g 0,f.val] ((Ha++(Hu++(Ho++(Hi++(Hr++Hm)))))++Hs) [gF B E,pF B pm A0,E.ef] (fun _:{H':Hp // E.St (rl E.stp E.kof pm x f 0 (nw,fm)).1 (rl E.stp E.kof pm x f 0 (nw,fm)).2 H'}=>.tuple #[]) (fun y=>(Ha++(Hu++(Ho++(Hi++(Hr++Hm)))))++y.1) (fun _=>[]):=by
  refine fM_ B E A0 pm x f nw fm Hs hS Ha Hu Ho Hi Hr Hm hI fun A hA=>?_
  have h:=sJ_ B E A pm x f nw fm Hs hS hpl hxl hyl
  have e:rl E.stp E.kof pm x f 0 (nw,fm)=_:=(if_neg (by rw[hk];decide)).trans (if_pos hk)
  rw[e]
  exact h
theorem rl21_c (B:EngB) (E:Emt Tryz.prog 67) (A0:EngA) (pm:List (Ky×Pc)) (x:Ix) (f:Fc) (nw fm:List Fc) (Hs:Hp) (hS:E.St nw fm Hs) (Ha Hu Ho Hi Hr Hm:Hp) (hI:IxO 9 67 B x ⟨Ha,Hu,Ho,Hi,Hr,Hm⟩) (hpl:∀ k,(lat pm k).length≤1000000000) (hxl:∀ k,(lat x.above k).length≤1000000000∧(lat x.under k).length≤1000000000) (hyl:∀ k,(lat x.frm k).length≤1000000000∧(lat x.into k).length≤1000000000∧(lat x.ranges k).length≤1000000000∧(lat x.firms k).length≤1000000000) (hf:f.kind=3→-1099511627776≤f.lo∧f.lo≤f.hi∧f.hi≤1099511627776) (hq:f.kind=3→∀ y∈lat pm (Ky.mk 9 f.r []),-1099511627776≤y.lo∧y.lo≤y.hi∧y.hi≤1099511627776) (hk:f.kind=2):Tri Tryz.prog 147 #[zp_ B.g 0,f.val] ((Ha++(Hu++(Ho++(Hi++(Hr++Hm)))))++Hs) [gF B E,pF B pm A0,E.ef] (fun _:{H':Hp // E.St (rl E.stp E.kof pm x f 1 (nw,fm)).1 (rl E.stp E.kof pm x f 1 (nw,fm)).2 H'}=>.tuple #[]) (fun y=>(Ha++(Hu++(Ho++(Hi++(Hr++Hm)))))++y.1) (fun _=>[]):=by
  refine fM_ B E A0 pm x f nw fm Hs hS Ha Hu Ho Hi Hr Hm hI fun A hA=>?_
  have h:=vU_ B E A pm x f nw fm Hs hS hpl hxl hyl
  have e:rl E.stp E.kof pm x f 1 (nw,fm)=_:=(if_neg (by rw[hk];decide)).trans (if_pos hk)
  rw[e]
  exact h
theorem rl22_c (B:EngB) (E:Emt Tryz.prog 67) (A0:EngA) (pm:List (Ky×Pc)) (x:Ix) (f:Fc) (nw fm:List Fc) (Hs:Hp) (hS:E.St nw fm Hs) (Ha Hu Ho Hi Hr Hm:Hp) (hI:IxO 9 67 B x ⟨Ha,Hu,Ho,Hi,Hr,Hm⟩) (hpl:∀ k,(lat pm k).length≤1000000000) (hxl:∀ k,(lat x.above k).length≤1000000000∧(lat x.under k).length≤1000000000) (hyl:∀ k,(lat x.frm k).length≤1000000000∧(lat x.into k).length≤1000000000∧(lat x.ranges k).length≤1000000000∧(lat x.firms k).length≤1000000000) (hf:f.kind=3→-1099511627776≤f.lo∧f.lo≤f.hi∧f.hi≤1099511627776) (hq:f.kind=3→∀ y∈lat pm (Ky.mk 9 f.r []),-1099511627776≤y.lo∧y.lo≤y.hi∧y.hi≤1099511627776) (hk:f.kind=2):Tri Tryz.prog 148 #[zp_ B.g 0,f.val] ((Ha++(Hu++(Ho++(Hi++(Hr++Hm)))))++Hs) [gF B E,pF B pm A0,E.ef] (fun _:{H':Hp // E.St (rl E.stp E.kof pm x f 2 (nw,fm)).1 (rl E.stp E.kof pm x f 2 (nw,fm)).2 H'}=>.tuple #[]) (fun y=>(Ha++(Hu++(Ho++(Hi++(Hr++Hm)))))++y.1) (fun _=>[]):=by
  refine fM_ B E A0 pm x f nw fm Hs hS Ha Hu Ho Hi Hr Hm hI fun A hA=>?_
  have h:=qQ_ B E A pm x f nw fm Hs hS hpl hxl hyl
  have e:rl E.stp E.kof pm x f 2 (nw,fm)=_:=(if_neg (by rw[hk];decide)).trans (if_pos hk)
  rw[e]
  exact h
theorem rl23_c (B:EngB) (E:Emt Tryz.prog 67) (A0:EngA) (pm:List (Ky×Pc)) (x:Ix) (f:Fc) (nw fm:List Fc) (Hs:Hp) (hS:E.St nw fm Hs) (Ha Hu Ho Hi Hr Hm:Hp) (hI:IxO 9 67 B x ⟨Ha,Hu,Ho,Hi,Hr,Hm⟩) (hpl:∀ k,(lat pm k).length≤1000000000) (hxl:∀ k,(lat x.above k).length≤1000000000∧(lat x.under k).length≤1000000000) (hyl:∀ k,(lat x.frm k).length≤1000000000∧(lat x.into k).length≤1000000000∧(lat x.ranges k).length≤1000000000∧(lat x.firms k).length≤1000000000) (hf:f.kind=3→-1099511627776≤f.lo∧f.lo≤f.hi∧f.hi≤1099511627776) (hq:f.kind=3→∀ y∈lat pm (Ky.mk 9 f.r []),-1099511627776≤y.lo∧y.lo≤y.hi∧y.hi≤1099511627776) (hk:f.kind=2):Tri Tryz.prog 149 #[zp_ B.g 0,f.val] ((Ha++(Hu++(Ho++(Hi++(Hr++Hm)))))++Hs) [gF B E,pF B pm A0,E.ef] (fun _:{H':Hp // E.St (rl E.stp E.kof pm x f 3 (nw,fm)).1 (rl E.stp E.kof pm x f 3 (nw,fm)).2 H'}=>.tuple #[]) (fun y=>(Ha++(Hu++(Ho++(Hi++(Hr++Hm)))))++y.1) (fun _=>[]):=by
  refine fM_ B E A0 pm x f nw fm Hs hS Ha Hu Ho Hi Hr Hm hI fun A hA=>?_
  have h:=pM_ B E A pm x f nw fm Hs hS hpl hxl hyl
  have e:rl E.stp E.kof pm x f 3 (nw,fm)=_:=(if_neg (by rw[hk];decide)).trans (if_pos hk)
  rw[e]
  exact h
theorem rl30_c (B:EngB) (E:Emt Tryz.prog 67) (A0:EngA) (pm:List (Ky×Pc)) (x:Ix) (f:Fc) (nw fm:List Fc) (Hs:Hp) (hS:E.St nw fm Hs) (Ha Hu Ho Hi Hr Hm:Hp) (hI:IxO 9 67 B x ⟨Ha,Hu,Ho,Hi,Hr,Hm⟩) (hpl:∀ k,(lat pm k).length≤1000000000) (hxl:∀ k,(lat x.above k).length≤1000000000∧(lat x.under k).length≤1000000000) (hyl:∀ k,(lat x.frm k).length≤1000000000∧(lat x.into k).length≤1000000000∧(lat x.ranges k).length≤1000000000∧(lat x.firms k).length≤1000000000) (hf:f.kind=3→-1099511627776≤f.lo∧f.lo≤f.hi∧f.hi≤1099511627776) (hq:f.kind=3→∀ y∈lat pm (Ky.mk 9 f.r []),-1099511627776≤y.lo∧y.lo≤y.hi∧y.hi≤1099511627776) (hk:f.kind=3):Tri Tryz.prog 150 #[zp_ B.g 0,f.val] ((Ha++(Hu++(Ho++(Hi++(Hr++Hm)))))++Hs) [gF B E,pF B pm A0,E.ef] (fun _:{H':Hp // E.St (rl E.stp E.kof pm x f 0 (nw,fm)).1 (rl E.stp E.kof pm x f 0 (nw,fm)).2 H'}=>.tuple #[]) (fun y=>(Ha++(Hu++(Ho++(Hi++(Hr++Hm)))))++y.1) (fun _=>[]):=by
  refine fM_ B E A0 pm x f nw fm Hs hS Ha Hu Ho Hi Hr Hm hI fun A hA=>?_
  have h:=meet_c B E A pm x f nw fm Hs hS hpl hxl hyl
  have e:rl E.stp E.kof pm x f 0 (nw,fm)=_:=(if_neg (by rw[hk];decide)).trans (if_neg (by rw[hk];decide))
  rw[e]
  exact h
theorem rl31_c (B:EngB) (E:Emt Tryz.prog 67) (A0:EngA) (pm:List (Ky×Pc)) (x:Ix) (f:Fc) (nw fm:List Fc) (Hs:Hp) (hS:E.St nw fm Hs) (Ha Hu Ho Hi Hr Hm:Hp) (hI:IxO 9 67 B x ⟨Ha,Hu,Ho,Hi,Hr,Hm⟩) (hpl:∀ k,(lat pm k).length≤1000000000) (hxl:∀ k,(lat x.above k).length≤1000000000∧(lat x.under k).length≤1000000000) (hyl:∀ k,(lat x.frm k).length≤1000000000∧(lat x.into k).length≤1000000000∧(lat x.ranges k).length≤1000000000∧(lat x.firms k).length≤1000000000) (hf:f.kind=3→-1099511627776≤f.lo∧f.lo≤f.hi∧f.hi≤1099511627776) (hq:f.kind=3→∀ y∈lat pm (Ky.mk 9 f.r []),-1099511627776≤y.lo∧y.lo≤y.hi∧y.hi≤1099511627776) (hk:f.kind=3):Tri Tryz.prog 151 #[zp_ B.g 0,f.val] ((Ha++(Hu++(Ho++(Hi++(Hr++Hm)))))++Hs) [gF B E,pF B pm A0,E.ef] (fun _:{H':Hp // E.St (rl E.stp E.kof pm x f 1 (nw,fm)).1 (rl E.stp E.kof pm x f 1 (nw,fm)).2 H'}=>.tuple #[]) (fun y=>(Ha++(Hu++(Ho++(Hi++(Hr++Hm)))))++y.1) (fun _=>[]):=by
  refine fM_ B E A0 pm x f nw fm Hs hS Ha Hu Ho Hi Hr Hm hI fun A hA=>?_
  have h:=out_c B E A pm x f nw fm Hs hS hpl hxl hyl (hf hk) (hq hk)
  have e:rl E.stp E.kof pm x f 1 (nw,fm)=_:=(if_neg (by rw[hk];decide)).trans (if_neg (by rw[hk];decide))
  rw[e]
  exact h
end Go.Proofs.YtamklbgaipakfaaGreatDoor
namespace Go.Proofs.YtamklbgaipakfaaGreatDoor
open Go Go.Sx Go.Proofs
attribute [local irreducible] Code.wp wpList wpAnyH
open Go.Vs
section
variable {N:Nf} {v0:Vw} {H0:Hp} {fr:Fr}
theorem lC_ {k:Act→World→Prop} {F:Hp}:∀ (B:Hp) {H:Hp} {Γ:List Fct},H.Perm (B++F)→Ok N v0 H0 k fr F (B.reverse.map (fun p=>bi_ p.1 p.2)++Γ)→Ok N v0 H0 k fr H Γ
  | [],H,Γ,hH,h=>C_ hH h
  | (b,o)::B,H,Γ,hH,h=>by
    refine ez_ (bi_ b o) (F:=B++F) hH (fun _ h1 h2 _=>⟨h1,h2⟩) ?_
    refine lC_ B (.refl _) ?_
    simpa using h
end
end Go.Proofs.YtamklbgaipakfaaGreatDoor
namespace Go.Proofs.YtamklbgaipakfaaGreatDoor
open Go Go.Sx Go.Proofs
attribute [local irreducible] Code.wp wpList wpAnyH
open Go.Vs
theorem sN_ {P:Program} (w:World) (d:Nat) (t e:TypeId) (a:Option Addr) (l c:Nat) (h:P.underlying t=some (.slice e)):(Op.equalIn (d+1) t (.slice a l c) (.slice none 0 0)).run P w=.ok a.isNone w:=by
  cases a<;>simp[Op.equalIn,run_underlying h]
theorem vN_ {P:Program} (w:World) (t e:TypeId) (a:Option Addr) (l c:Nat) (h:P.underlying t=some (.slice e)):(Op.equal t (.slice a l c) (.slice none 0 0)).run P w=.ok a.isNone w:=sN_ w 9999 t e a l c h
theorem os_ {P:Program} {N:Nf} {fr:Fr} {H:Hp} {Γ:List Fct} {ty t t' e:TypeId} {x y:Operand} {ad:Option Addr} {m c:Nat} (hu:P.underlying t=some (.slice e)) (hx:Fr.ev fr x=some (.slice ad m c)) (hy:Fr.ev fr y=some (.slice none 0 0)):Yld P N fr H Γ (.binOp .eql t x y t') ty (.bool (decide (ad=none))) :=
  fun a v h1 _ _ _ _ _=>by
    have he:decide (ad=none)=ad.isNone:=by cases ad<;>simp
    simp[execOp,h1.ev hx,h1.ev hy,eqGuard,binOp,vN_ v.w t e ad m c hu,he]
theorem tC_ {v:Vw} {cs:List Value} (h:bY_ v none cs):cs=[]:=by
 rcases h with h|⟨b,off,arr,T,fz,h1,_⟩
 ·exact h
 cases h1
theorem ll_ (b:Nat) (e:TypeId) (sz:Nat):aL_ e sz (.slice (some ⟨b,0,none⟩) 0 0) 0 [] [(b,.cells #[] e (0,0))]:=⟨by simp,.inr ⟨b,0,#[],rfl,rfl,Nat.le_refl _,by simp[maxLen],by simp,by simp⟩⟩
theorem uy_ (l:List Str) (ad:Option Addr) (cap:Nat) (hc:l.length≤cap) (hl:l.length≤1000000000):Tri Tryz.prog 137 #[.slice ad (List.length l) cap] [] [al_ ad (List.flatMap aE_ l)] (fun y:{y:Value×Hp // zR 9 1 aE_ y.1 l y.2}=>y.1.1) (fun y=>y.1.2) (fun _=>[]):=by
 refine l_ Tryz.func137 rfl rfl Tryz.ntmps137 rfl fun v0=>?_
 refine Zz 9 ?_
 refine D_ (os_ hK_ rfl rfl) rfl fun r1 hr1=>Zz 2 ?_
 cases r1
 ·replace hr1:=zdf hr1
  refine Zz 5 ?_
  refine jV_ n_ O_ rfl fun b1=>C_ e_ (Zz 1 ?_)
  refine eS_ (news:=List.flatMap aE_ l) dM_ (ll_ b1 9 1) rfl rfl (fun q=>absurd q hr1) hc aZ_ (by rw[em_ aE_ 1 at_]) zf (fun u hu=>bd_ cP_ hu) (by simp only[maxLen];omega) (by omega) rfl fun sv1 Hr1 hr1=>?_
  refine C_ List.perm_append_comm ?_
  have hq1:aL_ 9 1 sv1 (List.length (([]:List Str)++l)) (List.flatMap aE_ (([]:List Str)++l)) Hr1:=by rw[List.length_append,List.flatMap_append];exact hr1
  refine Zz 4 ?_
  exact N_ Tryz.results137 ⟨(sv1,Hr1),by simpa using hq1⟩ rfl aZ_ zt
 replace hr1:=zdt hr1
 refine Zz 7 ?_
 refine ok_get (p:=List.flatMap aE_ l=[]) (fun v _ h=>by have q:=h.1;subst hr1;exact tC_ q) fun hz=>?_
 have hz2:l=[]:=List.eq_nil_of_length_eq_zero (by have:=congrArg List.length hz;rwa [em_ aE_ 1 at_,Nat.mul_one]at this)
 exact N_ Tryz.results137 ⟨(.slice none 0 0,[]),by subst hz2;exact aL_.nil _ _⟩ rfl g_ zt
def atS (p:List Pc):List Str:=Lib.compact ((dY_ p++[[42],[33]]).mergeSort fun x y=>decide (x≤y))
theorem vZ_ (p:List Pc):(atS p).length≤3*p.length+2:=by
  have:=ia_ ((dY_ p++[[42],[33]]).mergeSort fun x y=>decide (x≤y))
  have h2:=eR_ p
  rw[List.length_mergeSort,List.length_append]at this
  simp only[List.length_cons,List.length_nil]at this
  unfold atS;omega
theorem jF_ (p:List Pc) (x:Str):x∈atS p↔x∈dY_ p∨x=[42]∨x=[33]:=by
  unfold atS
  rw[kB_,List.mem_mergeSort,List.mem_append]
  simp
theorem atS_c (p:List Pc) (pad:Option Addr) (pcap:Nat) (hp:p.length≤100000000):Tri Tryz.prog 71 #[.slice pad (List.length p) pcap] [] [al_ pad (List.flatMap Pc.cells p)] (fun y:{y:Option Addr×Nat // (atS p).length≤y.2∧y.2≤maxLen∧(y.1=none→y.2=0)}=>.slice y.1.1 (atS p).length y.1.2) (fun _=>[]) (fun y=>[al_ y.1.1 ((atS p).flatMap aE_)]):=by
  refine l_ Tryz.func71 rfl rfl Tryz.ntmps71 rfl fun v0=>?_
  refine Zz 8 ?_
  refine f_ (rH_ p pad pcap (by omega)) rfl g_ zf rfl fun⟨⟨aad,acap⟩,hac,ham⟩=>?_
  dsimp only
  refine f_ (uy_ (dY_ p) aad acap hac (by have:=eR_ p;omega)) rfl g_ zf rfl fun⟨⟨svc,Hcl⟩,hcl⟩=>?_
  dsimp only
  refine C_ im_ (E_ n_ O_ an_ rfl rfl rfl rfl rfl rfl fun b1=>?_)
  refine aG_ (news:=List.flatMap aE_ [[42],[33]]) dM_ hcl rfl rfl M_ rfl (bM_ 0 rfl) (fun u hu=>bd_ cP_ hu) (by simp only[maxLen];(have:=eR_ p;(try simp only[List.length_append,List.length_cons,List.length_nil]);omega)) (by (have:=eR_ p;(try simp only[List.length_append,List.length_cons,List.length_nil]);omega)) rfl fun sv1 Hr1 hr1=>?_
  refine C_ List.perm_append_comm ?_
  have hq1:=zsa hr1
  refine Zz 6 ?_
  refine f_ (nw_ hq1 (by (have:=eR_ p;(try simp only[List.length_append,List.length_cons,List.length_nil]);omega))) rfl M_ zt rfl fun⟨Hso1,hs1⟩=>?_
  dsimp only
  have hso1:aL_ 9 1 sv1 (List.length ((((dY_ p)++[[42],[33]])).mergeSort fun x y=>decide (x≤y))) (List.flatMap aE_ ((((dY_ p)++[[42],[33]])).mergeSort fun x y=>decide (x≤y))) Hso1:=by rw[List.length_mergeSort];exact hs1
  refine Zz 2 ?_
  refine C_ (bD_ ca_) (Zz 3 ?_)
  refine f_ (lT_ hso1 (by rw[List.length_mergeSort];(have:=eR_ p;(try simp only[List.length_append,List.length_cons,List.length_nil]);omega))) rfl M_ zt rfl fun⟨⟨svk2,Hk2⟩,hk2⟩=>?_
  dsimp only
  refine Zz 4 ?_
  refine cr_ hk2 o_ fun ad2 cp2 had2 hcad2 hmad2 hzad2=>?_
  exact N_ Tryz.results71 ⟨(ad2,cp2),hcad2,hmad2,hzad2⟩ (cb_ rfl had2) g_ zf
end Go.Proofs.YtamklbgaipakfaaGreatDoor
namespace Go.Proofs
open Go.Shelf
def Tryz.sortFc_ren:Go.Shelf.Ren:=⟨fun|6=>75|15=>90|14=>152|28=>176|29=>177|20=>214|21=>215|22=>216|23=>217|24=>218|25=>219|26=>220|27=>221|46=>258|47=>229|48=>230|49=>259|50=>260|57=>281|n=>n,fun|22=>59|24=>67|25=>130|3=>3|39=>145|0=>0|53=>217|55=>219|4=>4|46=>210|45=>209|50=>42|5=>5|9=>9|66=>261|70=>243|76=>296|77=>297|n=>n,fun|n=>n⟩
theorem Tryz.sortFc:Go.Proofs.SlLaysF0.n6 Tryz.prog Tryz.sortFc_ren:={
  mixed:=by kernel_rfl
  f6:=⟨Tryz.f75.name,by decide,Tryz.func75.trans (congrArg some (by kernel_rfl))⟩
  f14:=⟨Tryz.f152.name,by decide,Tryz.func152.trans (congrArg some (by kernel_rfl))⟩
  f15:=Tryz.func90.trans (congrArg some (by kernel_rfl))
  f20:=⟨Tryz.f214.name,by decide,Tryz.func214.trans (congrArg some (by kernel_rfl))⟩
  f21:=⟨Tryz.f215.name,by decide,Tryz.func215.trans (congrArg some (by kernel_rfl))⟩
  f22:=⟨Tryz.f216.name,by decide,Tryz.func216.trans (congrArg some (by kernel_rfl))⟩
  f23:=⟨Tryz.f217.name,by decide,Tryz.func217.trans (congrArg some (by kernel_rfl))⟩
  f24:=⟨Tryz.f218.name,by decide,Tryz.func218.trans (congrArg some (by kernel_rfl))⟩
  f25:=⟨Tryz.f219.name,by decide,Tryz.func219.trans (congrArg some (by kernel_rfl))⟩
  f26:=⟨Tryz.f220.name,by decide,Tryz.func220.trans (congrArg some (by kernel_rfl))⟩
  f27:=⟨Tryz.f221.name,by decide,Tryz.func221.trans (congrArg some (by kernel_rfl))⟩
  f28:=Tryz.func176.trans (congrArg some (by kernel_rfl))
  f29:=Tryz.func177.trans (congrArg some (by kernel_rfl))
  f46:=⟨Tryz.f258.name,by decide,Tryz.func258.trans (congrArg some (by kernel_rfl))⟩
  f47:=Tryz.func229.trans (congrArg some (by kernel_rfl))
  f48:=Tryz.func230.trans (congrArg some (by kernel_rfl))
  f49:=⟨Tryz.f259.name,by decide,Tryz.func259.trans (congrArg some (by kernel_rfl))⟩
  f50:=⟨Tryz.f260.name,by decide,Tryz.func260.trans (congrArg some (by kernel_rfl))⟩
  f57:=⟨Tryz.f281.name,by decide,Tryz.func281.trans (congrArg some (by kernel_rfl))⟩
  t0:=Tryz.underlying0
  a0:=Tryz.isAgg0
  z0:=Tryz.sizeOf0
  v0:=Tryz.zeroValue0
  t3:=Tryz.underlying3
  a3:=Tryz.isAgg3
  z3:=Tryz.sizeOf3
  v3:=Tryz.zeroValue3
  t4:=Tryz.underlying4
  a4:=Tryz.isAgg4
  z4:=Tryz.sizeOf4
  v4:=Tryz.zeroValue4
  t5:=Tryz.underlying5
  a5:=Tryz.isAgg5
  z5:=Tryz.sizeOf5
  v5:=Tryz.zeroValue5
  t9:=Tryz.underlying9
  a9:=Tryz.isAgg9
  z9:=Tryz.sizeOf9
  v9:=Tryz.zeroValue9
  t22:=Tryz.underlying59
  a22:=Tryz.isAgg59
  z22:=Tryz.sizeOf59
  v22:=Tryz.zeroValue59
  t25:=Tryz.underlying130
  a25:=Tryz.isAgg130
  z25:=Tryz.sizeOf130
  v25:=Tryz.zeroValue130
  t39:=Tryz.underlying145
  a39:=Tryz.isAgg145
  z39:=Tryz.sizeOf145
  v39:=Tryz.zeroValue145
  t45:=Tryz.underlying209
  a45:=Tryz.isAgg209
  z45:=Tryz.sizeOf209
  v45:=Tryz.zeroValue209
  t46:=Tryz.underlying210
  a46:=Tryz.isAgg210
  z46:=Tryz.sizeOf210
  v46:=Tryz.zeroValue210
  t50:=Tryz.underlying42
  a50:=Tryz.isAgg42
  z50:=Tryz.sizeOf42
  v50:=Tryz.zeroValue42
  t53:=Tryz.underlying217
  a53:=Tryz.isAgg217
  z53:=Tryz.sizeOf217
  v53:=Tryz.zeroValue217
  t55:=Tryz.underlying219
  a55:=Tryz.isAgg219
  z55:=Tryz.sizeOf219
  v55:=Tryz.zeroValue219
  t66:=Tryz.underlying261
  a66:=Tryz.isAgg261
  z66:=Tryz.sizeOf261
  v66:=Tryz.zeroValue261
  t70:=Tryz.underlying243
  a70:=Tryz.isAgg243
  z70:=Tryz.sizeOf243
  v70:=Tryz.zeroValue243
  t76:=Tryz.underlying296
  a76:=Tryz.isAgg296
  z76:=Tryz.sizeOf296
  v76:=Tryz.zeroValue296
  t77:=Tryz.underlying297
  a77:=Tryz.isAgg297
  z77:=Tryz.sizeOf297
  v77:=Tryz.zeroValue297 }
end Go.Proofs
namespace Go.Vs
open Go Go.Sx
def kk_ {α:Type} (l:List α) (i:Nat) (Q:Nat→α→Prop):Prop:=∀ j,j<i→∀ a,l[j]? = some a→Q j a
theorem kk_.zero {α:Type} {l:List α} {Q:Nat→α→Prop}:kk_ l 0 Q:=fun j hj=>by omega
theorem kk_.step {α:Type} {l:List α} {i:Nat} {Q:Nat→α→Prop} {a:α} (h:kk_ l i Q) (hr:l[i]? = some a) (hq:Q i a):kk_ l (i+1) Q:=fun j hj b hb=>by
 by_cases e:j=i
 ·subst e;rw[hr]at hb;cases hb;exact hq
 exact h j (by omega) b hb
theorem kk_.done {α:Type} {l:List α} {i:Nat} {Q:Nat→α→Prop} (h:kk_ l i Q) (hi:¬ (i:Int)<(l.length:Int)):∀ j a,l[j]? = some a→Q j a:=fun j a hj =>
  h j (by have:=(List.getElem?_eq_some_iff.1 hj).1;omega) a hj
theorem kk_.all {α:Type} {l:List α} {i:Nat} {Q:α→Prop} (h:kk_ l i fun _ a=>Q a) (hi:¬ (i:Int)<(l.length:Int)):∀ a∈l,Q a:=fun a ha=>by
  obtain⟨j,hj⟩:=List.getElem?_of_mem ha
  exact h.done hi j a hj
end Go.Vs
namespace Go.Vs
open Go Go.Sx
def ic_ (b:Bool):List Value:=[.bool b]
theorem nl_ (b:Bool):(ic_ b).length=1:=rfl
end Go.Vs
namespace Go.Sx
open Go
section
variable {K:Type} [DecidableEq K] {kv:K→Value}
structure KeyE (kv:K→Value) (es:Array MapEntry) (q:List K):Prop where
  keys:es.toList.map (·.key)=q.map kv
  nd:q.Nodup
theorem KeyE.nil:KeyE kv #[] ([]:List K):=⟨rfl,List.nodup_nil⟩
theorem KeyE.ofKey {es:Array MapEntry} {q:List K} (hE:KeyE kv es q) {e:MapEntry} (he:e∈es.toList):∃ k∈q,e.key=kv k:=by
  have:e.key∈es.toList.map (·.key):=List.mem_map_of_mem he
  rw[hE.keys]at this
  obtain⟨k,hk,h⟩:=List.mem_map.1 this
  exact⟨k,hk,h.symm⟩
theorem KeyE.entry {es:Array MapEntry} {q:List K} (hE:KeyE kv es q) (hi:∀ x y,kv x=kv y→x=y) {x e:MapEntry} (hx:x∈es.toList) (he:e∈es.toList) (h:x.key=e.key):x=e:=by
 obtain⟨i,hi1,hi2⟩:=List.getElem_of_mem hx
 obtain⟨j,hj1,hj2⟩:=List.getElem_of_mem he
 have hnd:(es.toList.map (·.key)).Nodup:=by
   rw[hE.keys]
   unfold List.Nodup
   rw[List.pairwise_map]
   exact List.Pairwise.imp (fun {a b} hab e=>hab (hi _ _ e)) hE.nd
 have hij:i=j:=by
   rcases Nat.lt_trichotomy i j with g|g|g
   · exact ((List.pairwise_iff_getElem.1 hnd i j (by simpa using hi1) (by simpa using hj1) g) (by simp only[List.getElem_map,hi2,hj2,h])).elim
   · exact g
   · exact ((List.pairwise_iff_getElem.1 hnd j i (by simpa using hj1) (by simpa using hi1) g) (by simp only[List.getElem_map,hi2,hj2,h])).elim
 subst hij
 rw[← hi2,← hj2]
theorem ItS.stepK {es:Array MapEntry} {q:List K} {c:Nat} {seen:Array Nat} {done:List K} {e:MapEntry} (hi:∀ x y,kv x=kv y→x=y) (hE:KeyE kv es q) (hB:Born es c) (h:ItS kv es seen done) (he:e∈(leftOf es seen).toList) :
    ∃ k,k∈q∧k ∉ done∧e.key=kv k∧e∈es.toList∧ItS kv es (seen.push e.born) (done++[k]):=by
  unfold leftOf at he
  rw[Array.toList_filter,List.mem_filter]at he
  obtain⟨h1,h2⟩:=he
  obtain⟨k,hk,hkv⟩:=hE.ofKey h1
  have hnd:k ∉ done:=fun hm=>by
    have:=(h.mem e h1).2 ⟨k,hm,hkv⟩
    rw[this]at h2
    simp at h2
  have same:∀ x∈es.toList,x.born=e.born→x=e:=fun x hx hb=>by
    have hn:=hB.nd
    obtain⟨i,hi1,hi2⟩:=List.getElem_of_mem hx
    obtain⟨j,hj1,hj2⟩:=List.getElem_of_mem h1
    have hij:i=j:=by
      rcases Nat.lt_trichotomy i j with g|g|g
      · exact ((List.pairwise_iff_getElem.1 hn i j (by simpa using hi1) (by simpa using hj1) g) (by simp only[List.getElem_map,hi2,hj2,hb])).elim
      · exact g
      · exact ((List.pairwise_iff_getElem.1 hn j i (by simpa using hj1) (by simpa using hi1) g) (by simp only[List.getElem_map,hi2,hj2,hb])).elim
    subst hij
    rw[← hi2,← hj2]
  refine⟨k,hk,hnd,hkv,h1,⟨?_,fun x hx=>?_,fun y hy=>?_⟩⟩
  · rw[List.nodup_append];exact⟨h.nd,by simp,fun a ha b hb e=>by simp at hb;subst hb;subst e;exact hnd ha⟩
  · rw[Array.contains_push,Bool.or_eq_true,h.mem x hx,beq_iff_eq]
    constructor
    · rintro (⟨y,hy,hyv⟩|h3)
      · exact⟨y,by simp[hy],hyv⟩
      · have:=same x hx h3
        exact⟨k,by simp,this▸hkv⟩
    · rintro ⟨y,hy,hyv⟩
      rcases List.mem_append.1 hy with hy|hy
      · exact .inl ⟨y,hy,hyv⟩
      · rw[List.mem_singleton]at hy
        subst hy
        exact .inr (congrArg MapEntry.born (hE.entry hi hx h1 (hyv.trans hkv.symm)))
  · rcases List.mem_append.1 hy with hy|hy
    · exact h.sub y hy
    · rw[List.mem_singleton]at hy
      subst hy
      exact⟨e,h1,hkv⟩
theorem ItS.endK {es:Array MapEntry} {q:List K} {seen:Array Nat} {done:List K} (hi:∀ x y,kv x=kv y→x=y) (hE:KeyE kv es q) (h:ItS kv es seen done) (h0:(leftOf es seen).size=0):done.Perm q:=by
 refine (List.perm_ext_iff_of_nodup h.nd hE.nd).2 fun k=>⟨fun hk=>?_,fun hk=>?_⟩
 ·obtain⟨e,he,hkv⟩:=h.sub k hk
  obtain⟨k',hk',hkv'⟩:=hE.ofKey he
  exact hi _ _ (hkv.symm.trans hkv')▸hk'
 have:kv k∈es.toList.map (·.key):=by rw[hE.keys];exact List.mem_map_of_mem hk
 obtain⟨e,he,hkv⟩:=List.mem_map.1 this
 have hs:seen.contains e.born=true:=by
   cases hc:seen.contains e.born
   · exfalso
     have:e∈(leftOf es seen).toList:=by unfold leftOf;rw[Array.toList_filter,List.mem_filter];exact⟨he,by simp only[hc];rfl⟩
     have h1:=List.length_pos_of_mem this
     simp only[Array.length_toList]at h1
     omega
   · rfl
 obtain⟨k',hk',hkv'⟩:=(h.mem e he).1 hs
 exact hi _ _ (hkv.symm.trans hkv')▸hk'
end
end Go.Sx
namespace Go.Sx
open Go
section
variable {P:Program} {ops:Array Oper} {Q:Exit→Act→World→Prop}
theorem qa_ {r n:Nat} {o:Oper} {a:Act} {w:World} {next:Act→World→Prop} (hnd:gl_ o.op=true) (h:o.wp P a w next Q):o.wpIn (Fence.wide.inRound r) n P a w next Q:=by
  refine⟨fun _ _=>trivial,?_⟩
  rw[semAt_eq hnd]
  unfold Oper.wp at h
  generalize (execOp a.eval o).run P w=z at h ⊢
  cases z with
  | ok x w' =>
    cases x with
    | value u=>exact h
    | skip=>exact h
    | defer d=>exact h
    | enter f args=>exact⟨fun q=>(by cases q),(jC_ (F:=Fence.wide) h r).mono fun e w'' q=>by cases e<;>exact q⟩
    | row row args =>
      refine⟨fun q=>(by cases q),fun c cs _=>?_⟩
      obtain⟨u,w'',h1,h2⟩:=h c cs
      exact⟨u,w'',h1,stepsIn_wide.2 h2⟩
    | _=>exact h.elim
  | halt x w'=>cases x<;>first|exact h|exact h.elim
theorem hg_ {r n:Nat} (hnd:(ops.toList.all fun o=>gl_ o.op)=true) (hQ:¬ LetsOut Q):∀ (l:List Nat) (a:Act) (w:World),wpOps P ops Q l a w→wpOpsIn (Fence.wide.inRound r) n P ops Q l a w
 | [],_,_,h=>h
 | i::l,a,w,h=>by
   unfold wpOps at h
   unfold wpOpsIn
   cases ho:ops[i]? with
   | none=>rw[ho]at h;exact hg_ hnd hQ l a w h
   | some o =>
     rw[ho]at h
     simp only at h ⊢
     have hd:gl_ o.op=true:=by
       rw[List.all_eq_true]at hnd
       exact hnd o (by rw[Array.mem_toList_iff];exact Array.mem_of_getElem? ho)
     split
     · rename_i hw
       rw[if_pos hw]at h
       rcases h with h|h
       · exact qa_ hd (Oper.wp_mono (fun a w q=>hg_ hnd hQ l a w q) h)
       · exact absurd h.2 hQ
     · rename_i hw
       rw[if_neg hw]at h
       exact⟨fun _ _=>trivial,hg_ hnd hQ l _ w h⟩
end
section
variable {n:Nat} {P:Program} {N:Nat} {v0:Vw} {H0:Hp} {R:Exit→Act→World→Prop} {K:List Kt} {fr:Fr} {H:Hp} {Γ:List Fct} {ops:Array Oper}
theorem qj_ {r id:Nat} (Hs:Hp) (hm:P.follows .mixedOrders=true) (hnd:(ops.toList.all fun o=>gl_ o.op)=true) (hK:fL_ K=true) (hn:∀ e a w,R e a w→e=.normal)
    (h:Any P R N v0 H0 ops Hs Γ ops.size (Array.replicate ops.size false) [] fr H Γ):hF_ (Fence.wide.inRound r) n P R N [] v0 H0 (.region id ops true) K fr H Γ:=by
  refine dP_.2 fun a v h1 h2 h3 h4=>?_
  refine wpIn_mono (Q:=R) (wpIn_region_draw fun t=>?_) fun e a w q=>by
    obtain rfl:=hn e a w q
    exact jS_ hK q
  have hle:v.le ⟨v.im,{ v.w with drawn:=v.w.drawn+1 },v.sl⟩:=⟨fun _ h=>h,fun _ _=>rfl,rfl⟩
  have q:=h a ⟨v.im,{ v.w with drawn:=v.w.drawn+1 },v.sl⟩ h1 ⟨h2.own,h2.nodup,h2.lt⟩ ⟨h3.os,h3.tape,h3.output,h3.size,h3.block,h3.imUp,h3.imNew,h3.hNew,h3.sl,h3.dr.imp (fun h=>h) fun h=>Nat.le_succ_of_le h⟩ (aR_ hle h4)
  refine hg_ hnd (fun⟨a,w,q⟩=>by cases hn _ _ _ q) _ _ _ ?_
  simp only[Region.schedule,hm,Bool.true_or,if_true]
  exact wpAny_sound ops.size t _ a _ (wpAny_of_held _ _ _ _ q)
theorem mj_ {σ:Type} {Hj:σ→Hp} {ok:σ→Prop} {HL:Hp}:∀ e a w,on_ v0 H0 Hj ok HL e a w→e=.normal
  | .normal,_,_,_=>rfl
instance {σ:Type} {Hj:σ→Hp} {ok:σ→Prop} {HL:Hp}:NoPan (on_ v0 H0 Hj ok HL):=⟨fun _ _ _ _ _ h=>h⟩
end
end Go.Sx
namespace Go.Vs
open Go Go.Sx
structure Thg where
  kind:Int
  name:Str
deriving DecidableEq
def Thg.cells (t:Thg):List Value:=[.int .i64 t.kind,str t.name]
theorem Thg.cells_len (t:Thg):t.cells.length=2:=rfl
def Thg.val (t:Thg):Value:=.agg t.cells.toArray
def ag_ (x:Pc):List Thg :=
  if x.kind=1∨x.kind=3∨x.kind=8 then [⟨1,x.a⟩]
  else if x.kind=2 then [⟨1,x.a⟩,⟨1,x.b⟩]
  else if x.kind=4 then [⟨2,x.r⟩,⟨1,x.a⟩]
  else if x.kind=5 then [⟨2,x.r⟩]
  else if x.kind=6 then [⟨2,x.r⟩,⟨2,x.s⟩]
  else if x.kind=9 then [⟨3,x.r⟩] else []
def ae_ (x:Pc):List Thg :=
  if x.kind=1∨x.kind=2∨x.kind=4∨x.kind=9 then [⟨1,x.c⟩]
  else if x.kind=3 then [⟨2,x.r⟩,⟨1,x.c⟩]
  else if x.kind=5∨x.kind=6 then [⟨2,x.t⟩]
  else if x.kind=7 then [⟨2,x.r⟩]
  else if x.kind=8 then [⟨3,x.r⟩] else []
def dv_ (S:List Str):List Thg:=[⟨1,[42]⟩,⟨1,[33]⟩]++S.map (fun s=>⟨1,s⟩)
inductive Rch (p:List Pc) (S:List Str):Thg→Prop
  | base {t:Thg} (h:t∈dv_ S):Rch p S t
  | give {x:Pc} {t:Thg} (hx:x∈p) (hn:∀ u∈ag_ x,Rch p S u) (ht:t∈ae_ x):Rch p S t
def Usb (p:List Pc) (S:List Str) (x:Pc):Prop:=∀ u∈ag_ x,Rch p S u
def by_ (K:List Thg):List Thg→List Thg
  | []=>[]
  | t::l=>if t∈K then by_ K l else t::by_ (K++[t]) l
theorem gn_:∀ (l K:List Thg) (t:Thg),t∈K++by_ K l↔t∈K∨t∈l
 | [],K,t=>by simp[by_]
 | u::l,K,t=>by
   rw[by_]
   by_cases h:u∈K
   · rw[if_pos h,gn_ l K t]
     constructor
     · rintro (q|q)
       · exact .inl q
       · exact .inr (List.mem_cons_of_mem _ q)
     · rintro (q|q)
       · exact .inl q
       · rcases List.mem_cons.1 q with rfl|q
         · exact .inl h
         · exact .inr q
   · rw[if_neg h,show K++u::by_ (K++[u]) l=(K++[u])++by_ (K++[u]) l by simp,gn_ l (K++[u]) t]
     simp only[List.mem_append,List.mem_cons,List.not_mem_nil,or_false,or_assoc]
theorem gm_:∀ (l K:List Thg),K.Nodup→(K++by_ K l).Nodup
 | [],K,h=>by simpa [by_] using h
 | u::l,K,h=>by
   rw[by_]
   by_cases hu:u∈K
   · rw[if_pos hu];exact gm_ l K h
   · rw[if_neg hu,show K++u::by_ (K++[u]) l=(K++[u])++by_ (K++[u]) l by simp]
     refine gm_ l (K++[u]) ?_
     rw[List.nodup_append]
     exact⟨h,by simp,fun a ha b hb e=>by simp at hb;subst hb;subst e;exact hu ha⟩
theorem pL_ {K l:List Thg} (h:K.Nodup) {t:Thg} (ht:t∈by_ K l):t ∉ K:=fun hk=>by
  have:=gm_ l K h
  rw[List.nodup_append]at this
  exact this.2.2 t hk t ht rfl
def pnd (K W:List Thg) (t:Thg):Bool:=decide (t ∉ K)||decide (t∈W)
theorem vp_ {K W l:List Thg} (h:K.Nodup) (t:Thg):pnd (K++by_ K l) (W++by_ K l) t=pnd K W t:=by
 unfold pnd
 rw[Bool.eq_iff_iff]
 simp only[Bool.or_eq_true,decide_eq_true_eq,List.mem_append]
 constructor
 ·rintro (q|q|q)
  ·exact .inl fun z=>q (.inl z)
  ·exact .inr q
  exact .inl (pL_ h q)
 rintro (q|q)
 ·by_cases z:t∈by_ K l
  ·exact .inr (.inr z)
  exact .inl fun w=>w.elim q z
 exact .inr (.inl q)
def eA_ (K W:List Thg) (x:Pc):Nat:=(ag_ x).countP (pnd K W)
theorem ka_ {K W l:List Thg} (h:K.Nodup) (x:Pc):eA_ (K++by_ K l) (W++by_ K l) x=eA_ K W x:=by
  unfold eA_
  congr 1
  funext t
  exact vp_ h t
structure KW (p:List Pc) (S:List Str) (K W:List Thg):Prop where
  snd:∀ t∈K,Rch p S t
  kn:K.Nodup
  sub:∀ t∈W,t∈K
  wn:W.Nodup
theorem KW.ext {p:List Pc} {S:List Str} {K W l:List Thg} (h:KW p S K W) (hl:∀ t∈l,Rch p S t):KW p S (K++by_ K l) (W++by_ K l) where
  snd t ht:=((gn_ l K t).1 ht).elim (h.snd t) (hl t)
  kn:=gm_ l K h.kn
  sub t ht:=(List.mem_append.1 ht).elim (fun q=>List.mem_append_left _ (h.sub t q)) (fun q=>List.mem_append_right _ q)
  wn:=by
    have h2:=gm_ l K h.kn
    rw[List.nodup_append]at h2 ⊢
    exact⟨h.wn,h2.2.1,fun a ha b hb=>h2.2.2 a (h.sub a ha) b hb⟩
structure RK (p:List Pc) (S:List Str) (i:Nat) (K:List Thg) (U:List Bool):Prop where
  kw:KW p S K K
  bas:∀ t∈dv_ S,t∈K
  ul:U.length=p.length
  use:∀ (j:Nat) x,p[j]? = some x→U[j]? = some (decide (j<i)&&decide (ag_ x=[]))
  giv:∀ (j:Nat) x,p[j]? = some x→j<i→ag_ x=[]→∀ t∈ae_ x,t∈K
structure RI (p:List Pc) (S:List Str) (K W:List Thg) (U:List Bool) (wl:List Int):Prop where
  kw:KW p S K W
  bas:∀ t∈dv_ S,t∈K
  ul:U.length=p.length
  wll:wl.length=p.length
  cnt:∀ (i:Nat) x,p[i]? = some x→wl[i]? = some (eA_ K W x:Int)
  use:∀ (i:Nat) x,p[i]? = some x→U[i]? = some (decide (eA_ K W x=0))
  giv:∀ (i:Nat) x,p[i]? = some x→eA_ K W x=0→∀ t∈ae_ x,t∈K
theorem kb_ (K:List Thg) (x:Pc):eA_ K K x=(ag_ x).length:=by
  unfold eA_
  rw[List.countP_eq_length]
  intro t _
  unfold pnd
  by_cases h:t∈K<;>simp[h]
theorem RK.init {p:List Pc} {S:List Str} {K:List Thg} (hK:KW p S K K) (hb:∀ t∈dv_ S,t∈K):RK p S 0 K (List.replicate p.length false) where
  kw:=hK
  bas:=hb
  ul:=by simp
  use j x hj:=by
    have:=(List.getElem?_eq_some_iff.1 hj).1
    rw[List.getElem?_replicate,if_pos this]
    simp
  giv j x _ h:=absurd h (Nat.not_lt_zero _)
theorem RK.skip {p:List Pc} {S:List Str} {i:Nat} {K:List Thg} {U:List Bool} {x:Pc} (h:RK p S i K U) (hx:p[i]? = some x) (hn:ag_ x≠[]):RK p S (i+1) K U where
 kw:=h.kw
 bas:=h.bas
 ul:=h.ul
 use j y hj:=by
   rw[h.use j y hj]
   by_cases e:j=i
   · subst e
     rw[hx,Option.some.injEq]at hj
     subst hj
     simp[hn]
   · congr 2
     rw[decide_eq_decide]
     omega
 giv j y hj hlt he:=by
   by_cases e:j=i
   · subst e
     rw[hx,Option.some.injEq]at hj
     subst hj
     exact absurd he hn
   · exact h.giv j y hj (by omega) he
theorem kP_ {α:Type} {l:List α} {i:Nat} {v:α} (h:i<l.length) (j:Nat):(l.set i v)[j]? = if j=i then some v else l[j]? := by
 rw[List.getElem?_set]
 by_cases e:i=j
 ·subst e;rw[if_pos rfl,if_pos rfl,if_pos h]
 rw[if_neg e,if_neg (fun q=>e q.symm)]
theorem RK.take {p:List Pc} {S:List Str} {i:Nat} {K:List Thg} {U:List Bool} {x:Pc} (h:RK p S i K U) (hx:p[i]? = some x) (hn:ag_ x=[]):RK p S (i+1) (K++by_ K (ae_ x)) (U.set i true) where
 kw:=h.kw.ext fun t ht=>.give (List.mem_of_getElem? hx) (by rw[hn];simp) ht
 bas t ht:=List.mem_append_left _ (h.bas t ht)
 ul:=by rw[List.length_set];exact h.ul
 use j y hj:=by
   have hlt:=(List.getElem?_eq_some_iff.1 hx).1
   rw[kP_ (by rw[h.ul];exact hlt)]
   by_cases e:j=i
   · subst e
     rw[hx,Option.some.injEq]at hj
     subst hj
     simp[hn]
   · rw[if_neg e,h.use j y hj]
     congr 2
     rw[decide_eq_decide]
     omega
 giv j y hj hlt he t ht:=by
   by_cases e:j=i
   · subst e
     rw[hx,Option.some.injEq]at hj
     subst hj
     exact (gn_ _ _ _).2 (.inr ht)
   · exact List.mem_append_left _ (h.giv j y hj (by omega) he t ht)
theorem RK.done {p:List Pc} {S:List Str} {K:List Thg} {U:List Bool} (h:RK p S p.length K U):RI p S K K U (p.map fun x=>((ag_ x).length:Int)) where
  kw:=h.kw
  bas:=h.bas
  ul:=h.ul
  wll:=by simp
  cnt i x hx:=by rw[List.getElem?_map,hx,kb_];rfl
  use i x hx:=by
    have:=(List.getElem?_eq_some_iff.1 hx).1
    rw[h.use i x hx,kb_,decide_eq_true this,Bool.true_and]
    congr 1
    rw[decide_eq_decide,List.length_eq_zero_iff]
  giv i x hx h0:=by
    rw[kb_,List.length_eq_zero_iff]at h0
    exact h.giv i x hx (List.getElem?_eq_some_iff.1 hx).1 h0
structure RJ (p:List Pc) (S:List Str) (t:Thg) (us:List Int) (j:Nat) (K W:List Thg) (U:List Bool) (wl:List Int):Prop where
  kw:KW p S K W
  bas:∀ t∈dv_ S,t∈K
  ul:U.length=p.length
  wll:wl.length=p.length
  tk:t∈K
  tw:t ∉ W
  cnt:∀ (i:Nat) x,p[i]? = some x→wl[i]? = some ((eA_ K W x:Int)+((ag_ x).count t:Int) - ((us.take j).count (i:Int):Int))
  use:∀ (i:Nat) x,p[i]? = some x→U[i]? = some (decide ((eA_ K W x:Int)+((ag_ x).count t:Int) - ((us.take j).count (i:Int):Int)=0))
  giv:∀ (i:Nat) x,p[i]? = some x→(eA_ K W x:Int)+((ag_ x).count t:Int) - ((us.take j).count (i:Int):Int)=0→∀ u∈ae_ x,u∈K
theorem jZ_ {p:List Pc} {S:List Str} {K W:List Thg} {t:Thg} (h:KW p S K (W++[t])) (x:Pc):eA_ K (W++[t]) x=eA_ K W x+(ag_ x).count t:=by
 have ht:t∈K:=h.sub t (by simp)
 have hw:t ∉ W:=fun q=>by
   have:=h.wn
   rw[List.nodup_append]at this
   exact this.2.2 t q t (by simp) rfl
 unfold eA_
 induction ag_ x with
 | nil=>rfl
 | cons u l ih =>
   rw[List.countP_cons,List.countP_cons,List.count_cons,ih]
   by_cases e:u=t
   · subst e
     have h1:pnd K (W++[u]) u=true:=by simp[pnd]
     have h2:pnd K W u=false:=by simp[pnd,ht,hw]
     rw[h1,h2]
     simp
     omega
   · have h1:pnd K (W++[t]) u=pnd K W u:=by simp[pnd,e]
     rw[h1,beq_eq_false_iff_ne.2 e]
     simp
     omega
theorem RI.pop {p:List Pc} {S:List Str} {K W:List Thg} {U:List Bool} {wl:List Int} {t:Thg} (h:RI p S K (W++[t]) U wl) (us:List Int):RJ p S t us 0 K W U wl where
  kw:=⟨h.kw.snd,h.kw.kn,fun u hu=>h.kw.sub u (List.mem_append_left _ hu),(List.nodup_append.1 h.kw.wn).1⟩
  bas:=h.bas
  ul:=h.ul
  wll:=h.wll
  tk:=h.kw.sub t (by simp)
  tw:=fun q=>(List.nodup_append.1 h.kw.wn).2.2 t q t (by simp) rfl
  cnt i x hx:=by rw[h.cnt i x hx,jZ_ h.kw];simp
  use i x hx:=by
    rw[h.use i x hx,jZ_ h.kw]
    congr 1
    rw[decide_eq_decide]
    simp
    omega
  giv i x hx h0:=h.giv i x hx (by rw[jZ_ h.kw];simp at h0;omega)
def ld_ (p:List Pc) (us:List Int) (t:Thg):Prop:=(∀ m∈us,0≤m∧m<p.length)∧∀ (i:Nat) x,p[i]? = some x→us.count (i:Int)=(ag_ x).count t
theorem iB_ (us:List Int) (j:Nat) (m:Int):(us.take j).count m≤us.count m:=(List.take_sublist j us).count_le m
theorem cB_ {us:List Int} {j:Nat} {m:Int} (hm:us[j]? = some m) (k:Int):(us.take (j+1)).count k=(us.take j).count k+if k=m then 1 else 0:=by
 rw[List.take_add_one,hm,List.count_append]
 simp only[Option.toList_some,List.count_cons,List.count_nil,Nat.zero_add]
 by_cases e:k=m
 ·subst e;simp
 rw[if_neg e,if_neg (by rw[beq_iff_eq];exact fun q=>e q.symm)]
section
variable {p:List Pc} {S:List Str} {t:Thg} {us:List Int} {j:Nat} {K W:List Thg} {U:List Bool} {wl:List Int} {i:Nat} {x:Pc} {n:Int}
theorem RJ.pos (h:RJ p S t us j K W U wl) (hu:ld_ p us t) (hm:us[j]? = some (i:Int)) (hx:p[i]? = some x):∃ n:Int,wl[i]? = some n∧1≤n∧n≤(ag_ x).length+(ag_ x).length∧n=(eA_ K W x:Int)+((ag_ x).count t:Int) - ((us.take j).count (i:Int):Int):=by
  have h1:=iB_ us (j+1) i
  rw[cB_ hm,if_pos rfl,hu.2 i x hx]at h1
  have h2:eA_ K W x≤(ag_ x).length:=List.countP_le_length
  have h3:(ag_ x).count t≤(ag_ x).length:=List.count_le_length
  exact⟨_,h.cnt i x hx,by omega,by omega,rfl⟩
theorem RJ.skip (h:RJ p S t us j K W U wl) (hu:ld_ p us t) (hm:us[j]? = some (i:Int)) (hx:p[i]? = some x) (hn:wl[i]? = some n) (h1:n - 1≠0):RJ p S t us (j+1) K W U (wl.set i (n - 1)) where
 kw:=h.kw
 bas:=h.bas
 ul:=h.ul
 wll:=by rw[List.length_set];exact h.wll
 tk:=h.tk
 tw:=h.tw
 cnt k y hy:=by
   have hlt:=(List.getElem?_eq_some_iff.1 hx).1
   rw[kP_ (by rw[h.wll];exact hlt),cB_ hm]
   by_cases e:k=i
   · subst e
     rw[hx,Option.some.injEq]at hy
     subst hy
     rw[h.cnt k x hx,Option.some.injEq]at hn
     rw[if_pos rfl,if_pos rfl,← hn]
     congr 1
     omega
   · rw[if_neg e,if_neg (by omega),h.cnt k y hy]
     congr 1
 use k y hy:=by
   rw[h.use k y hy,cB_ hm]
   by_cases e:k=i
   · subst e
     obtain⟨m,q1,q2,q3,q4⟩:=h.pos hu hm hy
     rw[hx,Option.some.injEq]at hy
     subst hy
     rw[hn,Option.some.injEq]at q1
     congr 1
     rw[decide_eq_decide,if_pos rfl]
     omega
   · rw[if_neg (by omega)]
     rfl
 giv k y hy h0:=by
   rw[cB_ hm]at h0
   by_cases e:k=i
   · subst e
     rw[hx,Option.some.injEq]at hy
     subst hy
     rw[h.cnt k x hx,Option.some.injEq]at hn
     rw[if_pos rfl]at h0
     omega
   · rw[if_neg (by omega)]at h0
     exact h.giv k y hy h0
theorem qG_ {K W:List Thg} {x:Pc} (h:eA_ K W x=0) {u:Thg} (hu:u∈ag_ x):u∈K:=by
 unfold eA_ at h
 rw[List.countP_eq_zero]at h
 have:=h u hu
 by_cases q:u∈K
 ·exact q
 simp[pnd,q]at this
theorem RJ.take (h:RJ p S t us j K W U wl) (hu:ld_ p us t) (hm:us[j]? = some (i:Int)) (hx:p[i]? = some x) (hn:wl[i]? = some n) (h1:n - 1=0):RJ p S t us (j+1) (K++by_ K (ae_ x)) (W++by_ K (ae_ x)) (U.set i true) (wl.set i (n - 1)) where
 kw:=h.kw.ext fun u hg=>.give (List.mem_of_getElem? hx) (fun v hv=>h.kw.snd v (by
   have h9:=iB_ us (j+1) i
   rw[cB_ hm,if_pos rfl,hu.2 i x hx]at h9
   rw[h.cnt i x hx,Option.some.injEq]at hn
   exact qG_ (W:=W) (by omega) hv)) hg
 bas u hb:=List.mem_append_left _ (h.bas u hb)
 ul:=by rw[List.length_set];exact h.ul
 wll:=by rw[List.length_set];exact h.wll
 tk:=List.mem_append_left _ h.tk
 tw:=fun q=>(List.mem_append.1 q).elim h.tw fun q=>pL_ h.kw.kn q h.tk
 cnt k y hy:=by
   have hlt:=(List.getElem?_eq_some_iff.1 hx).1
   rw[kP_ (by rw[h.wll];exact hlt),cB_ hm,ka_ h.kw.kn]
   by_cases e:k=i
   · subst e
     rw[hx,Option.some.injEq]at hy
     subst hy
     rw[h.cnt k x hx,Option.some.injEq]at hn
     rw[if_pos rfl,if_pos rfl,← hn]
     congr 1
     omega
   · rw[if_neg e,if_neg (by omega),h.cnt k y hy]
     congr 1
 use k y hy:=by
   have hlt:=(List.getElem?_eq_some_iff.1 hx).1
   rw[kP_ (by rw[h.ul];exact hlt),cB_ hm,ka_ h.kw.kn]
   by_cases e:k=i
   · subst e
     rw[hx,Option.some.injEq]at hy
     subst hy
     rw[h.cnt k x hx,Option.some.injEq]at hn
     rw[if_pos rfl,if_pos rfl]
     congr 1
     symm
     rw[decide_eq_true_eq]
     omega
   · rw[if_neg e,if_neg (by omega),h.use k y hy]
     rfl
 giv k y hy h0 u hg:=by
   rw[cB_ hm,ka_ h.kw.kn]at h0
   by_cases e:k=i
   · subst e
     rw[hx,Option.some.injEq]at hy
     subst hy
     exact (gn_ _ _ _).2 (.inr hg)
   · rw[if_neg (by omega)]at h0
     exact List.mem_append_left _ (h.giv k y hy h0 u hg)
theorem RJ.done (h:RJ p S t us us.length K W U wl) (hu:ld_ p us t):RI p S K W U wl:=by
  have key:∀ (i:Nat) x,p[i]? = some x→(eA_ K W x:Int)+((ag_ x).count t:Int) - ((us.take us.length).count (i:Int):Int)=(eA_ K W x:Int):=fun i x hx=>by
    rw[List.take_length,hu.2 i x hx]
    omega
  refine⟨h.kw,h.bas,h.ul,h.wll,fun i x hx=>by rw[h.cnt i x hx,key i x hx],fun i x hx=>?_,fun i x hx h0=>h.giv i x hx (by rw[key i x hx,h0];rfl)⟩
  rw[h.use i x hx,key i x hx]
  congr 1
  rw[decide_eq_decide]
  omega
end
structure ReachR (p:List Pc) (S:List Str) (K:List Thg) (U:List Bool):Prop where
  known:∀ t,t∈K↔Rch p S t
  kn:K.Nodup
  ul:U.length=p.length
  use:∀ (i:Nat) x,p[i]? = some x→∃ b,U[i]? = some b∧(b=true↔Usb p S x)
theorem RI.end {p:List Pc} {S:List Str} {K:List Thg} {U:List Bool} {wl:List Int} (h:RI p S K [] U wl):ReachR p S K U:=by
  have hz:∀ x,eA_ K [] x=0↔∀ u∈ag_ x,u∈K:=fun x=>by
    unfold eA_
    rw[List.countP_eq_zero]
    simp[pnd]
  have hall:∀ t,Rch p S t→t∈K:=fun t ht=>by
    induction ht with
    | base hb=>exact h.bas _ hb
    | give hx hn hg ih =>
      obtain⟨i,hi⟩:=List.getElem?_of_mem hx
      exact h.giv i _ hi ((hz _).2 ih) _ hg
  refine⟨fun t=>⟨h.kw.snd t,hall t⟩,h.kw.kn,h.ul,fun i x hx=>⟨_,h.use i x hx,?_⟩⟩
  rw[decide_eq_true_eq,hz]
  exact⟨fun q u hu=>h.kw.snd u (q u hu),fun q u hu=>hall u (q u hu)⟩
def iY_ (p:List Pc) (S:List Str):List Thg:=dv_ S++p.flatMap ae_
theorem Rch.univ {p:List Pc} {S:List Str} {t:Thg} (h:Rch p S t):t∈iY_ p S:=by
  unfold iY_
  cases h with
  | base h=>exact List.mem_append_left _ h
  | give hx _ ht=>exact List.mem_append_right _ (List.mem_flatMap.2 ⟨_,hx,ht⟩)
theorem eG_ {α:Type} [DecidableEq α]:∀ (l m:List α),l.Nodup→(∀ x∈l,x∈m)→l.length≤m.length
  | [],m,_,_=>Nat.zero_le _
  | a::l,m,h,hs=>by
    have ha:=hs a List.mem_cons_self
    have h2:=List.nodup_cons.1 h
    have:=eG_ l (m.erase a) h2.2 fun x hx=>(List.mem_erase_of_ne (by rintro rfl;exact h2.1 hx)).2 (hs x (List.mem_cons_of_mem _ hx))
    rw[List.length_erase_of_mem ha]at this
    have:=List.length_pos_of_mem ha
    simp only[List.length_cons]
    omega
theorem KW.len {p:List Pc} {S:List Str} {K W:List Thg} (h:KW p S K W):K.length≤(iY_ p S).length:=eG_ K _ h.kn fun t ht=>(h.snd t ht).univ
theorem lO_ (x:Pc):(ae_ x).length≤2:=by
  unfold ae_
  repeat (first|(split;· simp)|simp)
theorem hp_ (x:Pc):(ag_ x).length≤2:=by
  unfold ag_
  repeat (first|(split;· simp)|simp)
theorem fU_ (p:List Pc) (S:List Str):(iY_ p S).length≤2*p.length+S.length+2:=by
  have:∀ q:List Pc,(q.flatMap ae_).length≤2*q.length:=fun q=>by
    induction q with
    | nil=>simp
    | cons x q ih=>have:=lO_ x;rw[List.flatMap_cons,List.length_append,List.length_cons];omega
  have:=this p
  simp only[iY_,dv_,List.length_append,List.length_cons,List.length_nil,List.length_map]
  omega
end Go.Vs
