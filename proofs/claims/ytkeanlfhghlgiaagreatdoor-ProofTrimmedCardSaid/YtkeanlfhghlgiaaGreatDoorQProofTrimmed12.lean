/-
  Part of the proof of the law ProofTrimmed over this seat: the small logic, the data, the contracts of functions (no condition).
-/
import Derived.Test.YtkeanlfhghlgiaaGreatDoorQProofTrimmed11
import Derived.Test.YtkeanlfhghlgiaaGreatDoorQProofTrimmed6
import Derived.Test.YtkeanlfhghlgiaaGreatDoorQProofTrimmed7
import Derived.Test.YtkeanlfhghlgiaaGreatDoorQProofTrimmed8
import Derived.Test.YtkeanlfhghlgiaaGreatDoorQProofTrimmed9
import Derived.Test.YtkeanlfhghlgiaaGreatDoorQProofTrimmed3
import Derived.Test.YtkeanlfhghlgiaaGreatDoorRows
set_option linter.unusedVariables false
set_option linter.unusedSimpArgs false
set_option linter.unusedSectionVars false
set_option maxHeartbeats 1000000
namespace Go.Proofs.YtkeanlfhghlgiaaGreatDoor
open Go Go.Sx Go.Proofs
attribute [local irreducible] Code.wp wpList wpAnyH
open Go.Vs
def wfB (f:Fc):Bool:=decide (f.a≠[])&&(if f.kind=1 then decide (f.b≠[])&&decide (f=B_ f.a f.b)
  else if f.kind=2 then decide (f.b≠[])&&(decide (f.r≠[])&&decide (f=F_ f.a f.r f.b))
  else if f.kind=3 then decide (f.r≠[])&&(decide (f=N_ f.a f.r f.lo f.hi)&&(decide (-1099511627776≤f.lo)&&(decide (f.lo≤f.hi)&&decide (f.hi≤1099511627776))))
  else false)
theorem lD_ (f:Fc):wfB f=true↔f.wf:=by
 unfold wfB Fc.wf
 rw[Bool.and_eq_true]
 refine and_congr (by simp) ?_
 by_cases h1:f.kind=1
 ·rw[if_pos h1];simp[h1]
 rw[if_neg h1]
 by_cases h2:f.kind=2
 ·rw[if_pos h2];simp[h2]
 rw[if_neg h2]
 by_cases h3:f.kind=3
 ·rw[if_pos h3];simp[h3]
 rw[if_neg h3];simp[h1,h2,h3]
theorem isWf_c (f:Fc):Fn0 Tryz.prog 31 #[Fc.val f] (.bool (wfB f)):=by
 refine w_ Tryz.func31 rfl rfl Tryz.ntmps31 rfl fun v0=>?_
 refine Zz 2 ?_
 refine ay_ rfl rfl fun b1=>Zi 8 (fun hr1=>?_) fun hr1=>?_
 ·refine Zi 15 (fun hr2=>?_) fun hr2=>?_
  ·refine Zi 6 (fun hr3=>?_) fun hr3=>?_
   ·refine Zi 6 (fun hr4=>?_) fun hr4=>?_
    ·refine Zz 12 ?_
     exact al_ cN_ () (u_ rfl (by have p1:=eq_false hr1;have p2:=eq_false hr2;have p3:=eq_false hr3;have p4:=eq_false hr4;simp only[wfB,p1,p2,p3,p4,if_true,if_false,decide_true,decide_false,Bool.and_true,Bool.and_false,Bool.true_and,Bool.false_and,Bool.or_true,Bool.or_false,Bool.true_or,Bool.false_or,Bool.not_true,Bool.not_false,ne_eq,not_true_eq_false,not_false_eq_true,true_and,and_true,false_and,and_false,true_or,or_true,false_or,or_false,ite_true,ite_false,Bool.false_eq_true])) m_ zt
    refine Zz 6 ?_
    refine s_ 30 [0,1,2,3] zk zs (Zi 2 (fun hr5=>?_) fun hr5=>?_)
    ·refine Zz 2 ?_
     refine s_ 0 [4,5,6,7,8,9,10,11,12,13,14,15,16,17,18,19,20,21,22,23,24,25,26,27,28,29,30,31,32,33] zk zs (Zz 34 ?_)
     exact al_ cN_ () (u_ rfl (by have p1:=eq_false hr1;have p2:=eq_false hr2;have p3:=eq_false hr3;have p4:=eq_true hr4;have p5:=eq_true hr5;simp only[wfB,p1,p2,p3,p4,p5,if_true,if_false,decide_true,decide_false,Bool.and_true,Bool.and_false,Bool.true_and,Bool.false_and,Bool.or_true,Bool.or_false,Bool.true_or,Bool.false_or,Bool.not_true,Bool.not_false,ne_eq,not_true_eq_false,not_false_eq_true,true_and,and_true,false_and,and_false,true_or,or_true,false_or,or_false,ite_true,ite_false,Bool.false_eq_true])) m_ zt
    refine Zz 2 ?_
    refine s_ 21 [4,5,6,7,8,9,10,11,12] zk zs (Zz 10 ?_)
    refine l_ 13 rfl zk (aJ_ rfl rfl (n_ (jh_ f.a f.r f.lo f.hi) rfl m_ zt rfl fun _=>Zz 3 ?_))
    refine s_ 17 [14,15,16] zk zs (bx_ rfl rfl rfl (aF_ (p:=f) (q:=(N_ f.a f.r f.lo f.hi)) rfl rfl) rfl fun r6 hr6=>Zz 3 ?_)
    cases r6
    ·replace hr6:=zdf hr6
     refine s_ 0 [17,18,19,20,21,22,23,24,25,26,27,28,29,30,31,32,33] zk zs (Zz 21 ?_)
     exact al_ cN_ () (u_ rfl (by have p1:=eq_false hr1;have p2:=eq_false hr2;have p3:=eq_false hr3;have p4:=eq_true hr4;have p5:=eq_false hr5;have p6:=eq_false hr6;simp only[wfB,p1,p2,p3,p4,p5,p6,if_true,if_false,decide_true,decide_false,Bool.and_true,Bool.and_false,Bool.true_and,Bool.false_and,Bool.or_true,Bool.or_false,Bool.true_or,Bool.false_or,Bool.not_true,Bool.not_false,ne_eq,not_true_eq_false,not_false_eq_true,true_and,and_true,false_and,and_false,true_or,or_true,false_or,or_false,ite_true,ite_false,Bool.false_eq_true])) m_ zt
    replace hr6:=zdt hr6
    refine s_ 12 [17,18,19,20,21] zk zs (Zi 2 (fun hr7=>?_) fun hr7=>?_)
    ·refine Zz 3 ?_
     refine s_ 0 [22,23,24,25,26,27,28,29,30,31,32,33] zk zs (Zz 16 ?_)
     exact al_ cN_ () (u_ rfl (by have p1:=eq_false hr1;have p2:=eq_false hr2;have p3:=eq_false hr3;have p4:=eq_true hr4;have p5:=eq_false hr5;have p6:=eq_true hr6;have p7:=eq_false hr7;simp only[wfB,p1,p2,p3,p4,p5,p6,p7,if_true,if_false,decide_true,decide_false,Bool.and_true,Bool.and_false,Bool.true_and,Bool.false_and,Bool.or_true,Bool.or_false,Bool.true_or,Bool.false_or,Bool.not_true,Bool.not_false,ne_eq,not_true_eq_false,not_false_eq_true,true_and,and_true,false_and,and_false,true_or,or_true,false_or,or_false,ite_true,ite_false,Bool.false_eq_true])) m_ zt
    refine Zz 3 ?_
    refine s_ 5 [22,23,24,25,26,27,28] zk zs (Zi 4 (fun hr8=>?_) fun hr8=>?_)
    ·refine Zz 3 ?_
     refine s_ 0 [29,30,31,32,33] zk zs (Zz 9 ?_)
     exact al_ cN_ () (u_ rfl (by have p1:=eq_false hr1;have p2:=eq_false hr2;have p3:=eq_false hr3;have p4:=eq_true hr4;have p5:=eq_false hr5;have p6:=eq_true hr6;have p7:=eq_true hr7;have p8:=eq_false hr8;simp only[wfB,p1,p2,p3,p4,p5,p6,p7,p8,if_true,if_false,decide_true,decide_false,Bool.and_true,Bool.and_false,Bool.true_and,Bool.false_and,Bool.or_true,Bool.or_false,Bool.true_or,Bool.false_or,Bool.not_true,Bool.not_false,ne_eq,not_true_eq_false,not_false_eq_true,true_and,and_true,false_and,and_false,true_or,or_true,false_or,or_false,ite_true,ite_false,Bool.false_eq_true])) m_ zt
    refine Zz 3 ?_
    refine s_ 0 [29,30,31,32,33] zk zs (Zz 2 ?_)
    refine bx_ rfl rfl rfl (eE_ rfl rfl) rfl fun r9 hr9=>Zz 6 ?_
    exact al_ cN_ () (u_ rfl (by have p1:=eq_false hr1;have p2:=eq_false hr2;have p3:=eq_false hr3;have p4:=eq_true hr4;have p5:=eq_false hr5;have p6:=eq_true hr6;have p7:=eq_true hr7;have p8:=eq_true hr8;rw[← hr9];simp only[wfB,p1,p2,p3,p4,p5,p6,p7,p8,if_true,if_false,decide_true,decide_false,Bool.and_true,Bool.and_false,Bool.true_and,Bool.false_and,Bool.or_true,Bool.or_false,Bool.true_or,Bool.false_or,Bool.not_true,Bool.not_false,ne_eq,not_true_eq_false,not_false_eq_true,true_and,and_true,false_and,and_false,true_or,or_true,false_or,or_false,ite_true,ite_false,Bool.false_eq_true])) m_ zt
   refine Zz 6 ?_
   refine s_ 16 [0,1,2,3] zk zs (Zi 2 (fun hr10=>?_) fun hr10=>?_)
   ·refine Zz 2 ?_
    refine s_ 0 [4,5,6,7,8,9,10,11,12,13,14,15,16,17,18,19] zk zs (Zz 20 ?_)
    exact al_ cN_ () (u_ rfl (by have p1:=eq_false hr1;have p2:=eq_false hr2;have p3:=eq_true hr3;have p4:=eq_true hr10;simp only[wfB,p1,p2,p3,p4,if_true,if_false,decide_true,decide_false,Bool.and_true,Bool.and_false,Bool.true_and,Bool.false_and,Bool.or_true,Bool.or_false,Bool.true_or,Bool.false_or,Bool.not_true,Bool.not_false,ne_eq,not_true_eq_false,not_false_eq_true,true_and,and_true,false_and,and_false,true_or,or_true,false_or,or_false,ite_true,ite_false,Bool.false_eq_true])) m_ zt
   refine Zz 2 ?_
   refine s_ 11 [4,5,6,7,8] zk zs (Zi 2 (fun hr11=>?_) fun hr11=>?_)
   ·refine Zz 3 ?_
    refine s_ 0 [9,10,11,12,13,14,15,16,17,18,19] zk zs (Zz 15 ?_)
    exact al_ cN_ () (u_ rfl (by have p1:=eq_false hr1;have p2:=eq_false hr2;have p3:=eq_true hr3;have p4:=eq_false hr10;have p5:=eq_true hr11;simp only[wfB,p1,p2,p3,p4,p5,if_true,if_false,decide_true,decide_false,Bool.and_true,Bool.and_false,Bool.true_and,Bool.false_and,Bool.or_true,Bool.or_false,Bool.true_or,Bool.false_or,Bool.not_true,Bool.not_false,ne_eq,not_true_eq_false,not_false_eq_true,true_and,and_true,false_and,and_false,true_or,or_true,false_or,or_false,ite_true,ite_false,Bool.false_eq_true])) m_ zt
   refine Zz 3 ?_
   refine s_ 4 [9,10,11,12,13,14,15] zk zs (Zz 8 ?_)
   refine l_ 16 rfl zk (aJ_ rfl rfl (n_ (dv_ f.a f.r f.b) rfl m_ zt rfl fun _=>Zz 3 ?_))
   refine s_ 0 [17,18,19] zk zs (bx_ rfl rfl rfl (aF_ (p:=f) (q:=(F_ f.a f.r f.b)) rfl rfl) rfl fun r12 hr12=>Zz 6 ?_)
   exact al_ cN_ () (u_ rfl (by have p1:=eq_false hr1;have p2:=eq_false hr2;have p3:=eq_true hr3;have p4:=eq_false hr10;have p5:=eq_false hr11;rw[← hr12];simp only[wfB,p1,p2,p3,p4,p5,if_true,if_false,decide_true,decide_false,Bool.and_true,Bool.and_false,Bool.true_and,Bool.false_and,Bool.or_true,Bool.or_false,Bool.true_or,Bool.false_or,Bool.not_true,Bool.not_false,ne_eq,not_true_eq_false,not_false_eq_true,true_and,and_true,false_and,and_false,true_or,or_true,false_or,or_false,ite_true,ite_false,Bool.false_eq_true])) m_ zt
  refine Zz 6 ?_
  refine s_ 9 [0,1,2,3] zk zs (Zi 2 (fun hr13=>?_) fun hr13=>?_)
  ·refine Zz 2 ?_
   refine s_ 0 [4,5,6,7,8,9,10,11,12] zk zs (Zz 13 ?_)
   exact al_ cN_ () (u_ rfl (by have p1:=eq_false hr1;have p2:=eq_true hr2;have p3:=eq_true hr13;simp only[wfB,p1,p2,p3,if_true,if_false,decide_true,decide_false,Bool.and_true,Bool.and_false,Bool.true_and,Bool.false_and,Bool.or_true,Bool.or_false,Bool.true_or,Bool.false_or,Bool.not_true,Bool.not_false,ne_eq,not_true_eq_false,not_false_eq_true,true_and,and_true,false_and,and_false,true_or,or_true,false_or,or_false,ite_true,ite_false,Bool.false_eq_true])) m_ zt
  refine Zz 2 ?_
  refine s_ 4 [4,5,6,7,8] zk zs (Zz 6 ?_)
  refine l_ 9 rfl zk (aJ_ rfl rfl (n_ (cW_ f.a f.b) rfl m_ zt rfl fun _=>Zz 3 ?_))
  refine s_ 0 [10,11,12] zk zs (bx_ rfl rfl rfl (aF_ (p:=f) (q:=(B_ f.a f.b)) rfl rfl) rfl fun r14 hr14=>Zz 6 ?_)
  exact al_ cN_ () (u_ rfl (by have p1:=eq_false hr1;have p2:=eq_true hr2;have p3:=eq_false hr13;rw[← hr14];simp only[wfB,p1,p2,p3,if_true,if_false,decide_true,decide_false,Bool.and_true,Bool.and_false,Bool.true_and,Bool.false_and,Bool.or_true,Bool.or_false,Bool.true_or,Bool.false_or,Bool.not_true,Bool.not_false,ne_eq,not_true_eq_false,not_false_eq_true,true_and,and_true,false_and,and_false,true_or,or_true,false_or,or_false,ite_true,ite_false,Bool.false_eq_true])) m_ zt
 refine Zz 9 ?_
 exact al_ cN_ () (u_ rfl (by have p1:=eq_true hr1;simp only[wfB,p1,if_true,if_false,decide_true,decide_false,Bool.and_true,Bool.and_false,Bool.true_and,Bool.false_and,Bool.or_true,Bool.or_false,Bool.true_or,Bool.false_or,Bool.not_true,Bool.not_false,ne_eq,not_true_eq_false,not_false_eq_true,true_and,and_true,false_and,and_false,true_or,or_true,false_or,or_false,ite_true,ite_false,Bool.false_eq_true])) m_ zt
theorem lB_ (l:List Stp) (ad:Option Addr) (cap:Nat) (hl:l.length≤1000000) (hfl:∀ s∈l,s.frm.length≤1000000):Tri Tryz.prog 53 #[.agg #[.slice ad (List.length l) cap]] [] [am_ ad (List.flatMap Stp.cells l),aB_ l] (fun y:{e:Int // (e=0∨e=1)∧(e=0→jf_ l)∧(jf_ l→e=0)}=>.int .i64 y.1) (fun _=>[]) (fun _=>[]):=by
 refine w_ Tryz.func53 rfl rfl Tryz.ntmps53 rfl fun v0=>?_
 refine Zz 2 ?_
 refine ay_ rfl rfl fun b1=>Zi 9 (fun hr1=>?_) fun hr1=>?_
 ·refine Zz 15 ?_
  refine U_ (ι:={y:Nat // y≤List.length l∧iJ_ l y (fun n s=>∀ q∈s.frm,0≤q∧q<(n:Int))}) (fun y=>[(2,.int .i64 0),(12,.slice ad (List.length l) cap),(13,.int .i64 (List.length l:Int)),(14,.int .i64 (y.1:Int))]) (fun y=>([])) (fun y=>[am_ ad (List.flatMap Stp.cells l),aB_ l]) (fun y=>List.length l - y.1) ⟨(0:Nat),by simp,iJ_.zero⟩ zl m_ zh ?_
  rintro ⟨i,hi_i,hu_i⟩
  dsimp only at hi_i hu_i ⊢
  refine Zi 2 (fun hr2=>?_) fun hr2=>?_
  ·refine Zz 12 ?_
   exact al_ Tryz.results53 ⟨0,⟨.inl rfl,fun _=>⟨fun h=>hr1 (by rw[h];rfl),fun i s hs=>hu_i.done (by omega) i s hs⟩,fun _=>rfl⟩⟩ rfl m_ zt
  obtain⟨hlx1,x1,hx1,hmx1⟩:=zge (show i<List.length l by omega)
  refine Zz 13 ?_
  refine J_ bK_ rfl fun b2=>Zz 1 ?_
  refine y_ 0 aq_ rfl rfl rfl rfl rfl rfl (Zz 11 ?_)
  have hlx1f:=hfl x1 hmx1
  refine U_ (ι:={y:Nat // y≤List.length x1.frm∧iJ_ x1.frm y (fun _ q=>0≤q∧q<(i:Int))}) (fun y=>[(2,.int .i64 0),(12,.slice ad (List.length l) cap),(13,.int .i64 (List.length l:Int)),(14,.int .i64 (i:Int)),(3,.int .i64 (i:Int)),(20,.slice x1.ad (List.length x1.frm) x1.cap),(21,.int .i64 (List.length x1.frm:Int)),(22,.int .i64 (y.1:Int))]) (fun y=>([])) (fun y=>[am_ ad (List.flatMap Stp.cells l),aB_ l]) (fun y=>List.length x1.frm - y.1) ⟨(0:Nat),by simp,iJ_.zero⟩ zl m_ zh ?_
  rintro ⟨j,hi_j,hu_j⟩
  dsimp only at hi_j hu_j ⊢
  refine Zi 2 (fun hr3=>?_) fun hr3=>?_
  ·refine Zz 11 ?_
   exact z_ ⟨i+1,hlx1,hu_i.step hx1 (hu_j.all (by omega))⟩ (by dsimp only;omega) zl m_ zh
  obtain⟨hlx2,x2,hx2,hmx2⟩:=zge (show j<List.length x1.frm by omega)
  refine Zz 10 ?_
  refine i_ (X_ f_ p_ rfl rfl (fun v _ h=>E_ (n:=1) M_ (by decide) (by exact (h.2.1 x1 hmx1)) hx2) (by omega) (by first|omega|(simp;done))) rfl ?_
  refine i_ (av_ (ad:=x1.ad) T_ rfl (fun v _ h=>by exact (h.2.1 x1 hmx1)) (t_ M_ hx2 0 _ rfl)) rfl (Zi 6 (fun hr4=>?_) fun hr4=>?_)
  ·refine Zi 6 (fun hr5=>?_) fun hr5=>?_
   ·refine Zz 11 ?_
    exact z_ ⟨j+1,hlx2,hu_j.step hx2 (by omega)⟩ (by dsimp only;omega) zl m_ zh
   refine Zz 10 ?_
   exact al_ Tryz.results53 ⟨1,⟨.inr rfl,(fun h=>by cases h),fun h=>(by have q:=h.2 i x1 hx1 x2 hmx2;omega)⟩⟩ rfl m_ zt
  refine Zz 14 ?_
  exact al_ Tryz.results53 ⟨1,⟨.inr rfl,(fun h=>by cases h),fun h=>(by have q:=h.2 i x1 hx1 x2 hmx2;omega)⟩⟩ rfl m_ zt
 refine Zz 9 ?_
 exact al_ Tryz.results53 ⟨1,⟨.inr rfl,(fun h=>by cases h),fun h=>absurd (List.eq_nil_of_length_eq_zero (by omega)) h.1⟩⟩ rfl m_ zt
end Go.Proofs.YtkeanlfhghlgiaaGreatDoor
namespace Go.Proofs.YtkeanlfhghlgiaaGreatDoor
open Go Go.Sx Go.Proofs
attribute [local irreducible] Code.wp wpList wpAnyH
open Go.Vs
theorem ir_:iI_ Tryz.prog 29 [(0,1)] [.slice none 0 0]:=⟨_,cy_,cE_,fun w=>by simp[eO_]⟩
theorem KnI.recR {l:List Stp} {i:Nat} {ks:List Fc} {vs:List Int} {s:Stp} {m:Int} (h:KnI l i ks vs) (hl:vs.length=ks.length) (hs:l[i]? = some s) (hm:RecR ks vs s.fact (i:Int) m):KnI l (i+1) (if s.fact∈ks then ks else ks++[s.fact]) (if s.fact∈ks then vs else vs++[(i:Int)])∧m=(cn_ l s:Int):=by
 by_cases hk:s.fact∈ks
 ·rw[if_pos hk,if_pos hk];exact h.old hs hk (hm.1 hk)
 rw[if_neg hk,if_neg hk]
 obtain⟨h1,h2⟩:=h.new hl hs hk
 exact⟨h1,(hm.2 hk).trans h2⟩
end Go.Proofs.YtkeanlfhghlgiaaGreatDoor
namespace Go.Proofs.YtkeanlfhghlgiaaGreatDoor
open Go Go.Sx Go.Proofs
attribute [local irreducible] Code.wp wpList wpAnyH
open Go.Vs
theorem pc_ (L:List Int) (sv:Value) (Hr:Hp) (hr:zR 3 1 V_ sv L Hr) (hl:L.length≤1000000000):Tri Tryz.prog 56 #[sv] Hr [] (fun _:{H:Hp // zR 3 1 V_ sv L.reverse H}=>.tuple #[]) (fun y=>y.1) (fun _=>[]):=by
 refine w_ Tryz.func56 rfl rfl Tryz.ntmps56 rfl fun v0=>?_
 refine Zz 3 ?_
 refine i_ (cw_ hr f_ rfl) rfl (Zz 6 ?_)
 refine du_ [(0,sv),(2,.int .i64 0),(3,.int .i64 ((List.length L:Int) - 1 - ((0:Nat):Int)))] ⟨rfl,rfl,(cu_ rfl (by omega)),trivial⟩ ?_
 refine U_ (ι:={y:Nat×List Int×Value×Hp // RevI L y.2.1 y.1∧y.2.2.1=sv∧zR 3 1 V_ y.2.2.1 y.2.1 y.2.2.2}) (fun y=>[(0,y.1.2.2.1),(2,.int .i64 (y.1.1:Int)),(3,.int .i64 ((List.length L:Int) - 1 - (y.1.1:Int)))]) (fun y=>(y.1.2.2.2)) (fun y=>[]) (fun y=>List.length L - y.1.1) ⟨((0:Nat),L,sv,Hr),RevI.zero L,rfl,hr⟩ zl aH_ zt ?_
 rintro ⟨⟨k,M,sv_W,H_W⟩,hR,hsv,hr_W⟩
 dsimp only at hR hsv hr_W ⊢
 refine Zi 5 (fun hr1=>?_) fun hr1=>?_
 ·refine Zz 5 ?_
  have eM:=hR.done hr1
  subst eM
  rw[hsv]at hr_W
  exact bN_ Tryz.results56 ⟨H_W,hr_W⟩ rfl aH_ zt
 have htest:=hr1
 have hML:=hR.len
 have hla1:(Int.toNat ((List.length L:Int) - 1 - (k:Int)))<List.length M:=by omega
 obtain⟨a1,ha1⟩:∃ e0,M[(Int.toNat ((List.length L:Int) - 1 - (k:Int)))]? = some e0:=⟨_,List.getElem?_eq_getElem hla1⟩
 have hma1:a1∈M:=List.mem_of_getElem? ha1
 have hlb1:k<List.length M:=by omega
 obtain⟨b1,hb1⟩:∃ e0,M[k]? = some e0:=⟨_,List.getElem?_eq_getElem hlb1⟩
 have hmb1:b1∈M:=List.mem_of_getElem? hb1
 refine Zz 7 ?_
 refine af_ ([]) zk ?_
 refine s_ 6 [0,1,2,3,4,5,6,8,9,10] zk zs (Zz 6 ?_)
 refine R_ rfl (as_ hr_W f_ p_ rfl rfl (by omega) (by omega)) rfl (Zz 2 ?_)
 refine R_ rfl (as_ hr_W f_ p_ rfl rfl (by omega) (by omega)) rfl (dA_ ?_)
 refine bT_ 7 11 rfl rfl zk ?_ ?_
 ·refine i_ (aE_ hr_W aH_ T_ rfl (t_ M_ ha1 0 _ rfl)) rfl (Zz 3 ?_)
  refine l_ 11 rfl zk (i_ (aE_ hr_W aH_ T_ rfl (t_ M_ hb1 0 _ rfl)) rfl (Zz 3 ?_))
  refine s_ 3 [12] zk zs (R_ rfl (as_ hr_W f_ p_ rfl rfl (by omega) (by omega)) rfl (dA_ (l_ 13 rfl zk (cj_ (k:=(k:Int).toNat*1+0) hr_W aH_ p_ rfl rfl (by omega) rfl rfl fun Hr1 hr1=>?_))))
  have hs1:=(dQ_ V_ 1 M_ M k 0 b1 a1 (.int .i64 a1) hb1 (by decide) rfl).trans (congrArg _ (rfl))
  have hq1:aD_ 3 1 sv_W (List.length (List.set M k a1)) (List.flatMap V_ (List.set M k a1)) Hr1:=by rw[← hs1,show List.length (List.set M k a1)=List.length M from (List.length_set ..)];exact hr1
  refine x_ dK_ (Zz 3 ?_)
  refine l_ 14 rfl zk ?_
  have hb2:(List.set M k a1)[(Int.toNat ((List.length L:Int) - 1 - (k:Int)))]? = some a1:=by rw[List.getElem?_set_ne (by omega)];exact ha1
  have hlb2:(Int.toNat ((List.length L:Int) - 1 - (k:Int)))<List.length (List.set M k a1):=by rw[List.length_set];omega
  refine i_ (as_ hq1 f_ p_ rfl rfl (by omega) (by omega)) rfl (Zz 3 ?_)
  refine l_ 15 rfl zk (cj_ (k:=((Int.toNat ((List.length L:Int) - 1 - (k:Int))):Int).toNat*1+0) hq1 aH_ p_ rfl rfl (by omega) rfl rfl fun Hr2 hr2=>?_)
  have hs2:=(dQ_ V_ 1 M_ (List.set M k a1) (Int.toNat ((List.length L:Int) - 1 - (k:Int))) 0 a1 b1 (.int .i64 b1) hb2 (by decide) rfl).trans (congrArg _ (rfl))
  have hq2:aD_ 3 1 sv_W (List.length (List.set (List.set M k a1) (Int.toNat ((List.length L:Int) - 1 - (k:Int))) b1)) (List.flatMap V_ (List.set (List.set M k a1) (Int.toNat ((List.length L:Int) - 1 - (k:Int))) b1)) Hr2:=by rw[← hs2,show List.length (List.set (List.set M k a1) (Int.toNat ((List.length L:Int) - 1 - (k:Int))) b1)=List.length (List.set M k a1) from (List.length_set ..)];exact hr2
  refine x_ dK_ (Zz 14 ?_)
  exact z_ ⟨(k+1,(List.set (List.set M k a1) (Int.toNat ((List.length L:Int) - 1 - (k:Int))) b1),sv_W,Hr2),(by have q:=hR.step htest (show M[List.length L - 1 - k]? = some a1 from by rw[show List.length L - 1 - k=(Int.toNat ((List.length L:Int) - 1 - (k:Int))) by omega];exact ha1) hb1;rw[show List.length L - 1 - k=(Int.toNat ((List.length L:Int) - 1 - (k:Int))) by omega]at q;exact q),hsv,hq2⟩ (by dsimp only;omega) ⟨rfl,rfl,(cu_ rfl (by dsimp only;omega)),trivial⟩ aH_ zt
 refine i_ (aE_ hr_W aH_ T_ rfl (t_ M_ hb1 0 _ rfl)) rfl (Zz 3 ?_)
 refine l_ 7 rfl zk (i_ (aE_ hr_W aH_ T_ rfl (t_ M_ ha1 0 _ rfl)) rfl (Zz 3 ?_))
 refine s_ 3 [12] zk zs (R_ rfl (as_ hr_W f_ p_ rfl rfl (by omega) (by omega)) rfl (dA_ (l_ 13 rfl zk (cj_ (k:=(k:Int).toNat*1+0) hr_W aH_ p_ rfl rfl (by omega) rfl rfl fun Hr3 hr3=>?_))))
 have hs3:=(dQ_ V_ 1 M_ M k 0 b1 a1 (.int .i64 a1) hb1 (by decide) rfl).trans (congrArg _ (rfl))
 have hq3:aD_ 3 1 sv_W (List.length (List.set M k a1)) (List.flatMap V_ (List.set M k a1)) Hr3:=by rw[← hs3,show List.length (List.set M k a1)=List.length M from (List.length_set ..)];exact hr3
 refine x_ dK_ (Zz 3 ?_)
 refine l_ 14 rfl zk ?_
 have hb2:(List.set M k a1)[(Int.toNat ((List.length L:Int) - 1 - (k:Int)))]? = some a1:=by rw[List.getElem?_set_ne (by omega)];exact ha1
 have hlb2:(Int.toNat ((List.length L:Int) - 1 - (k:Int)))<List.length (List.set M k a1):=by rw[List.length_set];omega
 refine i_ (as_ hq3 f_ p_ rfl rfl (by omega) (by omega)) rfl (Zz 3 ?_)
 refine l_ 15 rfl zk (cj_ (k:=((Int.toNat ((List.length L:Int) - 1 - (k:Int))):Int).toNat*1+0) hq3 aH_ p_ rfl rfl (by omega) rfl rfl fun Hr4 hr4=>?_)
 have hs4:=(dQ_ V_ 1 M_ (List.set M k a1) (Int.toNat ((List.length L:Int) - 1 - (k:Int))) 0 a1 b1 (.int .i64 b1) hb2 (by decide) rfl).trans (congrArg _ (rfl))
 have hq4:aD_ 3 1 sv_W (List.length (List.set (List.set M k a1) (Int.toNat ((List.length L:Int) - 1 - (k:Int))) b1)) (List.flatMap V_ (List.set (List.set M k a1) (Int.toNat ((List.length L:Int) - 1 - (k:Int))) b1)) Hr4:=by rw[← hs4,show List.length (List.set (List.set M k a1) (Int.toNat ((List.length L:Int) - 1 - (k:Int))) b1)=List.length (List.set M k a1) from (List.length_set ..)];exact hr4
 refine x_ dK_ (Zz 14 ?_)
 exact z_ ⟨(k+1,(List.set (List.set M k a1) (Int.toNat ((List.length L:Int) - 1 - (k:Int))) b1),sv_W,Hr4),(by have q:=hR.step htest (show M[List.length L - 1 - k]? = some a1 from by rw[show List.length L - 1 - k=(Int.toNat ((List.length L:Int) - 1 - (k:Int))) by omega];exact ha1) hb1;rw[show List.length L - 1 - k=(Int.toNat ((List.length L:Int) - 1 - (k:Int))) by omega]at q;exact q),hsv,hq4⟩ (by dsimp only;omega) ⟨rfl,rfl,(cu_ rfl (by dsimp only;omega)),trivial⟩ aH_ zt
theorem pn_ {σ:Type} {l:Nat} {Gj:σ→Hp} {lst:σ→List Int} (hY:∀ s x,(lst s).length<1000000000000→rY_ Tryz.prog l (.int .i64 x) (Gj s) [] (fun _:{s':σ // lst s'=lst s++[x]}=>.bool true) (fun s'=>Gj s'.1) (fun _=>[])) (s0:σ) (hs0:lst s0=[]) (us ts:List Stp) (uad:Option Addr) (ucap bx:Nat) (HF:Hp) (hne:us≠[]) (hord:∀ (i:Nat) s,us[i]? = some s→∀ q∈s.frm,0≤q∧q<(i:Int)) (htk:∀ (n:Nat) s,us[n]? = some s→ts[n]? = some s) (ho:je_ 3 ts HF) (hul:us.length≤1000000) (hfl:∀ s∈us,s.frm.length≤1000000):Tri Tryz.prog 107 #[.func (.yield l) #[] #[],zp_ bx 0] ((bx,.cells #[.slice uad (List.length us) ucap] 27 (0,0))::(HF++Gj s0)) [am_ uad (List.flatMap Stp.cells us)] (fun _:{s':σ // NdL us (lst s')}=>.tuple #[]) (fun s'=>(bx,.cells #[.slice uad (List.length us) ucap] 27 (0,0))::(HF++Gj s'.1)) (fun _=>[]):=by
 refine w_ Tryz.func107 rfl rfl Tryz.ntmps107 rfl fun v0=>?_
 refine Zz 4 ?_
 refine eJ_ (n:=List.length us) (by':=1) Tryz.underlying99 (z:=(.bool false)) zk rfl (by decide) rfl rfl (by omega) (by simp only[maxLen];omega) rfl fun svB HrB hrB=>?_
 have hqB:aD_ 4 1 svB (List.length (List.replicate (List.length us) false)) (List.flatMap in_ (List.replicate (List.length us) false)) HrB:=by rw[List.length_replicate,← fM_ in_];exact hrB
 refine Zz 3 ?_
 refine x_ (ao_ (e_ d_)) (Zz 6 ?_)
 have hup:0<List.length us:=List.length_pos_iff.2 hne
 have hlw0:(Int.toNat ((List.length us:Int) - 1))<List.length (List.replicate (List.length us) false):=by rw[List.length_replicate];omega
 obtain⟨w0,hw0⟩:∃ e0,(List.replicate (List.length us) false)[(Int.toNat ((List.length us:Int) - 1))]? = some e0:=⟨_,List.getElem?_eq_getElem hlw0⟩
 have hmw0:w0∈(List.replicate (List.length us) false):=List.mem_of_getElem? hw0
 refine i_ (as_ hqB Tryz.runUnderlying99 nG_ rfl rfl (by omega) (by omega)) rfl (cj_ (k:=((Int.toNat ((List.length us:Int) - 1)):Int).toNat*1+0) hqB zp nG_ rfl rfl (by omega) rfl rfl fun Hr1 hr1=>?_)
 have hs1:=(dQ_ in_ 1 iH_ (List.replicate (List.length us) false) (Int.toNat ((List.length us:Int) - 1)) 0 w0 true (.bool true) hw0 (by decide) rfl).trans (congrArg _ (rfl))
 have hq1:aD_ 4 1 svB (List.length (List.set (List.replicate (List.length us) false) (Int.toNat ((List.length us:Int) - 1)) true)) (List.flatMap in_ (List.set (List.replicate (List.length us) false) (Int.toNat ((List.length us:Int) - 1)) true)) Hr1:=by rw[← hs1,show List.length (List.set (List.replicate (List.length us) false) (Int.toNat ((List.length us:Int) - 1)) true)=List.length (List.replicate (List.length us) false) from (List.length_set ..)];exact hr1
 refine Zz 2 ?_
 refine x_ (ao_ (e_ d_)) (Zz 9 ?_)
 have hs9:List.set (List.replicate (List.length us) false) (Int.toNat ((List.length us:Int) - 1)) true=(List.replicate us.length false).set (us.length - 1) true:=by rw[show (Int.toNat ((List.length us:Int) - 1))=us.length - 1 by omega]
 refine U_ (ι:={y:Int×List Bool×σ×Value×Hp // (-1≤y.1∧y.1<(List.length us:Int))∧MkI us y.2.1 (y.1+1).toNat (lst y.2.2.1)∧zR 4 1 in_ y.2.2.2.1 y.2.1 y.2.2.2.2}) (fun y=>[(0,.func (.yield l) #[] #[]),(1,zp_ bx 0),(3,y.1.2.2.2.1),(4,.int .i64 y.1.1)]) (fun y=>((bx,.cells #[.slice uad (List.length us) ucap] 27 (0,0))::(HF++((Gj y.1.2.2.1)++y.1.2.2.2.2)))) (fun y=>[am_ uad (List.flatMap Stp.cells us)]) (fun y=>(y.1.1+1).toNat) ⟨(((List.length us:Int) - 1),(List.set (List.replicate (List.length us) false) (Int.toNat ((List.length us:Int) - 1)) true),s0,svB,Hr1),by omega,(by rw[show (((List.length us:Int) - 1)+1).toNat=us.length by omega,hs0,hs9];exact MkI.start hord hne),hq1⟩ zl zp zh ?_
 rintro ⟨⟨z,bs,s,sv_B,H_B⟩,hz,hM,hr_B⟩
 dsimp only at hz hM hr_B ⊢
 refine Zi 4 (fun hr1=>?_) fun hr1=>?_
 ·refine Zz 5 ?_
  have q:=hM;rw[show (z+1).toNat=0 by omega]at q
  exact bN_ Tryz.results107 ⟨s,q.done⟩ rfl zp zt
 obtain⟨n,rfl⟩:∃ n:Nat,z=n:=⟨z.toNat,by omega⟩
 have hM2:MkI us bs (n+1) (lst s):=by have q:=hM;rwa [show ((n:Int)+1).toNat=n+1 by omega]at q
 have hnl:n<List.length us:=by omega
 have hbl:=hM2.len
 have hls1:n<List.length us:=hnl
 obtain⟨s1,hs1⟩:∃ e0,us[n]? = some e0:=⟨_,List.getElem?_eq_getElem hls1⟩
 have hms1:s1∈us:=List.mem_of_getElem? hs1
 have hlw1:n<List.length bs:=by omega
 obtain⟨w1,hw1⟩:∃ e0,bs[n]? = some e0:=⟨_,List.getElem?_eq_getElem hlw1⟩
 have hmw1:w1∈bs:=List.mem_of_getElem? hw1
 refine Zz 12 ?_
 refine i_ (as_ hr_B Tryz.runUnderlying99 nG_ rfl rfl (by omega) (by omega)) rfl (i_ (aE_ hr_B zp Tryz.isAgg4 rfl (t_ iH_ hw1 0 _ rfl)) rfl (i_ (bI_ rfl) rfl (Zz 2 ?_)))
 cases w1
 ·refine Zz 9 ?_
  exact z_ ⟨(((n:Int) - 1),bs,s,sv_B,H_B),by omega,(by rw[show ((n:Int) - 1+1).toNat=n by omega];exact hM2.miss hord hw1),hr_B⟩ (by dsimp only;omega) zl zp zh
 refine Zz 5 ?_
 obtain⟨Hs9,Hr9,hp1,hp2,_⟩:=ho.get (htk n s1 hs1)
 refine x_ (List.Perm.trans (c_ j_) (hp1.append_right _)) (x_ (List.Perm.of_eq (List.append_assoc ..)) (x_ (ao_ (e_ (e_ d_))) (Zz 6 ?_)))
 refine i_ (cw_ hp2 f_ rfl) rfl (Zz 4 ?_)
 refine U_ (ι:={y:Nat×List Bool×Value×Hp // y.1≤List.length s1.frm∧y.2.1.length=bs.length∧(∀ q:Nat,y.2.1[q]? = some true↔bs[q]? = some true∨(q:Int)∈s1.frm.take y.1)∧zR 4 1 in_ y.2.2.1 y.2.1 y.2.2.2}) (fun y=>[(0,.func (.yield l) #[] #[]),(1,zp_ bx 0),(3,y.1.2.2.1),(4,.int .i64 (n:Int)),(31,(.slice s1.ad (List.length s1.frm) s1.cap)),(32,.int .i64 (List.length s1.frm:Int)),(33,.int .i64 (y.1.1:Int))]) (fun y=>((bx,.cells #[.slice uad (List.length us) ucap] 27 (0,0))::(Hs9++(Hr9++((Gj s)++y.1.2.2.2))))) (fun y=>[am_ uad (List.flatMap Stp.cells us)]) (fun y=>List.length s1.frm - y.1.1) ⟨((0:Nat),bs,sv_B,H_B),by simp,rfl,by simp,hr_B⟩ zl zp zh ?_
 rintro ⟨⟨j,cs,sv_B,H_B⟩,hj,hcl,hcq,hr_B⟩
 dsimp only at hj hcl hcq hr_B ⊢
 have hfj:=hfl s1 hms1
 refine Zi 2 (fun hr2=>?_) fun hr2=>?_
 ·refine Zz 7 ?_
  have e9:List.take j s1.frm=Stp.frm s1:=List.take_of_length_le (by omega)
  have hhit:MkI us cs n (lst s++[(n:Int)]):=hM2.hit hord hw1 hs1 hcl (fun q=>by have q2:=hcq q;rw[e9]at q2;exact q2)
  refine x_ (List.Perm.trans (o_ (c_ j_) (c_ j_)) (hp1.symm.append_right _)) (x_ (ao_ (e_ d_)) ?_)
  refine qr_ (ι:={s':σ // lst s'=lst s++[(n:Int)]}) (fun _=>[(0,.func (.yield l) #[] #[]),(1,zp_ bx 0),(3,sv_B),(4,.int .i64 (n:Int)),(44,.bool false)]) (fun z=>((bx,.cells #[.slice uad (List.length us) ucap] 27 (0,0))::(HF++(H_B++(Gj z.1))))) (fun _=>[am_ uad (List.flatMap Stp.cells us)]) ?_ ?_
  ·refine gK_ ?_
   refine fW_ jX_ (at_ rfl) rfl rfl ?_
   refine fW_ jX_ (at_ rfl) rfl rfl ?_
   refine nP_ (hY s (n:Int) (by have:=hM2.llen hord;omega)) rfl rfl (c_ (e_ j_)) zt rfl fun z=>?_
   refine fW_ jX_ (bI_ rfl) rfl rfl ?_
   refine jW_ ?_
   refine kn_ rfl ?_
   exact lm_ z zl zp zh
  rintro ⟨s',hs'⟩
  dsimp only
  refine Zz 10 ?_
  exact z_ ⟨(((n:Int) - 1),cs,s',sv_B,H_B),by omega,(by rw[show ((n:Int) - 1+1).toNat=n by omega,hs'];exact hhit),hr_B⟩ (by dsimp only;omega) zl zp zh
 obtain⟨hlx2,x2,hx2,hmx2⟩:=zge (show j<List.length s1.frm by omega)
 refine Zz 10 ?_
 refine i_ (as_ hp2 f_ p_ rfl rfl (by omega) (by omega)) rfl (i_ (aE_ hp2 zp T_ rfl (t_ M_ hx2 0 _ rfl)) rfl (Zz 6 ?_))
 have hx2b:=hord n s1 hs1 x2 hmx2
 have hlw2:(Int.toNat x2)<List.length cs:=by have:=hM2.len;omega
 obtain⟨w2,hw2⟩:∃ e0,cs[(Int.toNat x2)]? = some e0:=⟨_,List.getElem?_eq_getElem hlw2⟩
 have hmw2:w2∈cs:=List.mem_of_getElem? hw2
 refine i_ (as_ hr_B Tryz.runUnderlying99 nG_ rfl rfl (by omega) (by omega)) rfl (cj_ (k:=((Int.toNat x2):Int).toNat*1+0) hr_B zp nG_ rfl rfl (by omega) rfl rfl fun Hr2 hr2=>?_)
 have hs2:=(dQ_ in_ 1 iH_ cs (Int.toNat x2) 0 w2 true (.bool true) hw2 (by decide) rfl).trans (congrArg _ (rfl))
 have hq2:aD_ 4 1 sv_B (List.length (List.set cs (Int.toNat x2) true)) (List.flatMap in_ (List.set cs (Int.toNat x2) true)) Hr2:=by rw[← hs2,show List.length (List.set cs (Int.toNat x2) true)=List.length cs from (List.length_set ..)];exact hr2
 refine Zz 2 ?_
 refine x_ (ao_ (e_ d_)) (Zz 5 ?_)
 exact z_ ⟨(j+1,(List.set cs (Int.toNat x2) true),sv_B,Hr2),hlx2,by rw[List.length_set];exact hcl,nT_ hcq hx2 hx2b.1 hlw2,hq2⟩ (by dsimp only;omega) zl zp zh
end Go.Proofs.YtkeanlfhghlgiaaGreatDoor
namespace Go.Proofs.YtkeanlfhghlgiaaGreatDoor
open Go Go.Sx Go.Proofs
attribute [local irreducible] Code.wp wpList wpAnyH
open Go.Vs
theorem qT_ {N:Nf} {v0:Vw} {H0:Hp} {fr:Fr} {k:Act→World→Prop} {T:TypeId} {tk:List Stp} {HO F H:Hp} {Γ:List Fct} (hH:H.Perm (HO++F)) (ho:je_ T tk HO) (h:Ok N v0 H0 k fr F (aB_ tk::Γ)):Ok N v0 H0 k fr H Γ :=
 ib_ HO hH (gQ_ (fun v _ hv=>by
   rw[eq_]at hv
   refine⟨mL_ ho fun p hp=>?_,hv.2⟩
   have:∀ (l:Hp),aj_ (l.map fun p=>ek_ p.1 p.2) v→∀ p∈l,v.im p.1∧v.w.heap[p.1]? = some p.2:=by
     intro l
     induction l with
     | nil=>intro _ p hp;simp at hp
     | cons a l ih =>
       intro hl p hp
       rcases List.mem_cons.1 hp with rfl|hp
       · exact hl.1
       · exact ih hl.2 p hp
   exact this _ hv.1 p (by simpa using hp)) h)
theorem pf_as3 {H A B C G:Hp} {b c:Nat×Obj} (h:H.Perm ((b::c::(A++(B++C)))++G)):H.Perm ((b::c::A)++B++(C++G)):=by simpa [List.append_assoc] using h
theorem pf_D {H B F:Hp} {l D:Nat} {r:Loop} (h:H.Perm (B++(HLp l D r++F))):H.Perm ((D,.deferred (some []))::(B++((l,.loop r)::F))):=by
  refine h.trans ?_
  unfold HLp
  have:B++([(l,Obj.loop r),(D,.deferred (some []))]++F)=(B++[(l,Obj.loop r)])++((D,.deferred (some []))::F):=by simp
  rw[this]
  refine List.perm_middle.trans ?_
  simp
theorem qZ_ (us:List Stp) (uad:Option Addr) (ucap:Nat):Tri Tryz.prog 55 #[.slice uad (List.length us) ucap] [] [] (fun b:Nat=>.func (.func 107) #[] #[zp_ b 0]) (fun b=>[(b,.cells #[.slice uad (List.length us) ucap] 27 (0,0))]) (fun _=>[]):=by
  refine w_ Tryz.func55 rfl rfl Tryz.ntmps55 rfl fun v0=>?_
  refine Zz 2 ?_
  refine ay_ rfl rfl fun b1=>Zz 5 ?_
  refine i_ (cA_ rfl rfl) rfl (Zz 4 ?_)
  exact al_ Tryz.results55 b1 rfl d_ zt
theorem sF_ {us:List Stp} {L:List Int} {n:Nat} (h:NdL us L) (hord:∀ (i:Nat) s,us[i]? = some s→∀ q∈s.frm,0≤q∧q<(i:Int)) (hn:us.length≤n):L.length≤n:=by
  have h1:L.Nodup:=h.dec.imp fun hab=>by omega
  have h2:∀ x∈L,x∈(List.range us.length).map Int.ofNat:=fun x hx=>by
    obtain⟨m,e,hd⟩:=h.nat x hx
    exact List.mem_map.2 ⟨m,List.mem_range.2 (ll_ hord hd),e.symm⟩
  have:=fs_ h1 h2
  simp at this;omega
theorem lE_ (l:List Stp) (ad:Option Addr) (cap:Nat) (hl:l.length≤1000000) (hfl:∀ s∈l,s.frm.length≤1000000):Tri Tryz.prog 21 #[.agg #[.slice ad (List.length l) cap]] [] [am_ ad (List.flatMap Stp.cells l),aB_ l] (fun y:{y:List Stp×Option Addr×Nat×Int // (jf_ l→y.2.2.2=0∧kD_ l y.1∧y.1.length≤100000000∧y.1.length≤y.2.2.1∧y.2.2.1≤maxLen∧(y.2.1=none→y.2.2.1=0))∧(¬ jf_ l→y.2.2.2=1∧y.1=[]∧y.2.1=none∧y.2.2.1=0)}=>.tuple #[.agg #[.slice y.1.2.1 y.1.1.length y.1.2.2.1],.int .i64 y.1.2.2.2]) (fun _=>[]) (fun y=>[am_ y.1.2.1 (List.flatMap Stp.cells y.1.1),aB_ y.1.1]):=by
 refine lF_ Tryz.func21 rfl rfl Tryz.ntmps21 rfl fun v0=>?_
 refine Zz 2 ?_
 refine ay_ rfl rfl fun b1=>J_ cy_ rfl fun b2=>Zz 7 ?_
 refine n_ (lB_ l ad cap hl hfl) rfl m_ zf rfl fun⟨ec,hec,hec1,hec2⟩=>?_
 dsimp only
 refine Zi 6 (fun hr1=>?_) fun hr1=>?_
 ·obtain⟨hne,hord⟩:=hec1 hr1
  refine Zz 7 ?_
  refine bJ_ rfl fun b3=>Zz 8 ?_
  refine eJ_ (n:=List.length l) (by':=8) Tryz.underlying46 (z:=(.int .i64 0)) zk rfl (by decide) rfl rfl (by omega) (by simp only[maxLen];omega) rfl fun svF HrF hrF=>?_
  have hqF:aD_ 3 1 svF (List.length (fsI l 0)) (List.flatMap V_ (fsI l 0)) HrF:=by rw[rx_];rw[List.length_replicate,← fM_ V_];exact hrF
  refine Zz 3 ?_
  refine x_ (q_ (e_ d_) (q_ (e_ d_) (ao_ aa_))) (Zz 5 ?_)
  refine eJ_ (n:=List.length l) (by':=112) Tryz.underlying27 (z:=(.agg #[.int .i64 0,.int .i64 0,str [],str [],str [],.int .i64 0,.int .i64 0,.int .i64 0,.slice none 0 0])) zk rfl (by decide) rfl rfl (by omega) (by simp only[maxLen];omega) rfl fun svS HrS hrS=>?_
  have hqS:aD_ 48 9 svS (List.length (List.replicate (List.length l) Stp.zero)) (List.flatMap Stp.cells (List.replicate (List.length l) Stp.zero)) HrS:=by rw[List.length_replicate,← fM_ Stp.cells];exact hrS
  refine Zz 4 ?_
  refine x_ (q_ (e_ d_) (q_ (e_ d_) (ao_ (e_ d_)))) (Zz 9 ?_)
  refine x_ (H':=([]:Hp)++((b3,.map #[] 0)::((b2,.cells #[.slice none 0 0] 29 (0,0))::((b1,.cells #[.slice ad (List.length l) cap] 29 (0,0))::(HrS++HrF))))) (List.Perm.refl _) ?_
  refine U_ (ι:={y:Nat×List Fc×List Int×Array MapEntry×Nat×List Stp×Hp×Value×Hp×Value×Hp // y.1≤List.length l∧IntE Fc.val y.2.2.2.1 y.2.1 y.2.2.1∧KnI l y.1 y.2.1 y.2.2.1∧TsI l y.2.2.2.2.2.1 y.1∧je_ 3 y.2.2.2.2.2.1 y.2.2.2.2.2.2.1∧aD_ 3 1 y.2.2.2.2.2.2.2.1 (List.length (fsI l y.1)) (List.flatMap V_ (fsI l y.1)) y.2.2.2.2.2.2.2.2.1∧aD_ 48 9 y.2.2.2.2.2.2.2.2.2.1 (List.length y.2.2.2.2.2.1) (List.flatMap Stp.cells y.2.2.2.2.2.1) y.2.2.2.2.2.2.2.2.2.2}) (fun y=>[(2,zp_ b2 0),(3,.int .i64 0),(5,.map (some b3)),(6,y.1.2.2.2.2.2.2.2.1),(7,y.1.2.2.2.2.2.2.2.2.2.1),(37,.slice ad (List.length l) cap),(38,.int .i64 (List.length l:Int)),(39,.int .i64 (y.1.1:Int))]) (fun y=>((b2,.cells #[.slice none 0 0] 29 (0,0))::((b1,.cells #[.slice ad (List.length l) cap] 29 (0,0))::((b3,.map y.1.2.2.2.1 y.1.2.2.2.2.1)::(y.1.2.2.2.2.2.2.1++(y.1.2.2.2.2.2.2.2.2.1++y.1.2.2.2.2.2.2.2.2.2.2)))))) (fun y=>[am_ ad (List.flatMap Stp.cells l),aB_ l]) (fun y=>List.length l - y.1.1) ⟨((0:Nat),[],[],#[],0,(List.replicate (List.length l) Stp.zero),[],svF,HrF,svS,HrS),by simp,IntE.nil,KnI.nil l,TsI.zero l,lj_ _ _,hqF,hqS⟩ zl zp zh ?_
  rintro ⟨⟨i,ks,vs,es,ck,ts,HO,sv_F,H_F,sv_S,H_S⟩,hi_i,hE,hk,ht,ho,hr_F,hr_S⟩
  dsimp only at hi_i hE hk ht ho hr_F hr_S ⊢
  refine Zi 2 (fun hr2=>?_) fun hr2=>?_
  ·refine Zz 7 ?_
   have ei:i=List.length l:=by omega
   subst ei
   have hF9:aD_ 3 1 sv_F (List.length (fsL l)) (List.flatMap V_ (fsL l)) H_F:=by have q:=hr_F;rw[sQ_ l (Nat.le_refl _)]at q;exact q
   have hll:=List.length_pos_iff.2 hne
   obtain⟨xl,hxl⟩:∃ xl,l[List.length l - 1]? = some xl:=⟨_,List.getElem?_eq_getElem (by omega)⟩
   have hfl9:=gy_ l
   have hflast:(fsL l)[(Int.toNat ((List.length (fsL l):Int) - 1))]? = some (cn_ l xl:Int):=by rw[show (Int.toNat ((List.length (fsL l):Int) - 1))=List.length l - 1 by omega];exact jp_ hxl
   have hlflast:(Int.toNat ((List.length (fsL l):Int) - 1))<List.length (fsL l):=by omega
   refine Zz 3 ?_
   refine i_ (cw_ hF9 f_ rfl) rfl (Zz 1 ?_)
   refine i_ (as_ hF9 f_ p_ rfl rfl (by omega) (by omega)) rfl (i_ (aE_ hF9 zp T_ rfl (t_ M_ hflast 0 _ rfl)) rfl (Zz 5 ?_))
   refine J_ Z_ rfl fun b4=>Zz 4 ?_
   refine ca_ hr_S (c_ (c_ (c_ (c_ (e_ aa_))))) fun sd1 sc1 hsd1 hcsd1 hmsd1 hzsd1=>?_
   subst hsd1
   have hxm:=List.mem_of_getElem? hxl
   have hla:=jo_ hxm
   have htl:=ht.len
   refine Zz 3 ?_
   refine i_ (aU_ (dq_ rfl rfl rfl (fF_ (by omega) (by omega))) (show Value.int .i64 ((cn_ l xl:Int)+1)=Value.int .i64 ((cn_ l xl+1:Nat):Int) from congrArg _ (by omega))) rfl (i_ (aU_ (dh_ (i:=0) (j:=(cn_ l xl+1:Nat)) (kl:=.i64) (kh:=.i64) O_ aq_ rfl rfl rfl (by omega) (by have:=hcsd1;omega)) (show _=Value.slice (sad sd1 sc1 0 9) (List.length (List.take (cn_ l xl+1:Nat) ts)) (sc1 - 0) by rw[List.length_take,Nat.min_eq_left (by omega)];rfl)) rfl ?_)
   refine n_ (qZ_ (List.take (cn_ l xl+1:Nat) ts) (sad sd1 sc1 0 9) (sc1 - 0)) rfl m_ zt rfl fun bN=>Zz 3 ?_
   have hord2:=ht.ord hord
   have hordu:∀ (n:Nat) t,(List.take (cn_ l xl+1) ts)[n]? = some t→∀ q∈t.frm,0≤q∧q<(n:Int):=fun n t h=>hord2 n t (dy_ h)
   have hulen:List.length (List.take (cn_ l xl+1) ts)=cn_ l xl+1:=by rw[List.length_take];omega
   have hneu:(List.take (cn_ l xl+1) ts)≠[]:=fun q=>by rw[q]at hulen;simp at hulen
   have hflu:=ht.fl hfl
   refine ep_ (g_ d_ (o_ (c_ (c_ (c_ (c_ j_)))) (g_ d_ d_))) zh ?_
   refine du_ [(2,zp_ b2 0),(7,.slice sd1 (List.length ts) sc1),(13,zp_ b4 0),(97,.func (.func 107) #[] #[zp_ bN 0])] zl ?_
   refine nI_ (σ:={y:Value×Hp×List Int // aD_ 3 1 y.1 y.2.2.length (y.2.2.flatMap V_) y.2.1}) (α:=Int) (xv:=fun x=>.int .i64 x) (good:=fun s _=>s.1.2.2.length<1000000000000) (nx:=fun x s s'=>s'.1.2.2=s.1.2.2++[x]) (Rc:=fun s=>NdL (List.take (cn_ l xl+1) ts) s.1.2.2) (Γi:=[am_ (sad sd1 sc1 0 9) (List.flatMap Stp.cells (List.take (cn_ l xl+1:Nat) ts))]) (Hj:=fun y=>(b4,.cells #[y.1.1] 46 (0,0))::(b2,.cells #[.slice none 0 0] 29 (0,0))::y.1.2.1) (Hc:=(bN,.cells #[.slice (sad sd1 sc1 0 9) (List.length (List.take (cn_ l xl+1:Nat) ts)) (sc1 - 0)] 27 (0,0))::HO) (caps:=[zp_ bN 0]) ⟨(.slice none 0 0,[],[]),aD_.nil _ _⟩ rfl (.refl _) (fun v _ h=>by exact⟨(bz_.slice Stp.cells_len h.1 hcsd1 0 (cn_ l xl+1:Nat)),trivial⟩) ?_ ?_ ?_
   ·rintro l2 D rec hp hst hpe htt hasg hbody ⟨⟨sv,Hq,L⟩,hr⟩ x hx'
    dsimp only at hr hx' ⊢
    refine mn_ (ι:=Unit) (Hj:=fun y:{y:Value×Hp×List Int // aD_ 3 1 y.1 y.2.2.length (y.2.2.flatMap V_) y.2.1}=>(b4,.cells #[y.1.1] 46 (0,0))::(b2,.cells #[.slice none 0 0] 29 (0,0))::y.1.2.1) (s:=⟨(sv,Hq,L),hr⟩) (ok:=fun s'=>s'.1.2.2=L++[x]) (Γ:=[]) (fun _=>[(13,zp_ b4 0),(14,.int .i64 x)]) (fun _=>(b4,.cells #[sv] 46 (0,0))::(b2,.cells #[.slice none 0 0] 29 (0,0))::Hq) hp hst hpe htt rfl ?_ ?_
    ·intro n v0 H0 HL
     rw[hasg]
     dsimp only
     refine gR_.2 (x_ (H':=(b4,.cells #[sv] 46 (0,0))::(b2,.cells #[.slice none 0 0] 29 (0,0))::(Hq++HL)) (by simp) (gR_.1 ?_))
     refine gK_ ?_
     refine fW_ (fe_ _) (hy_ rfl) rfl rfl ?_
     refine jW_ ?_
     refine kn_ rfl ?_
     exact lm_ () zl (F:=[]) (by rw[List.append_nil];exact .refl _) zh
    intro n v0 H0 HL _
    rw[hbody]
    refine gR_.2 (x_ (H':=(b4,.cells #[sv] 46 (0,0))::(b2,.cells #[.slice none 0 0] 29 (0,0))::(Hq++HL)) (by simp) (gR_.1 ?_))
    refine nK_ ?_
    refine gK_ ?_
    refine fW_ (fe_ _) (bq_ 0 Tryz.isAgg46 rfl rfl rfl) rfl rfl ?_
    refine fW_ (fe_ _) (at_ rfl) rfl rfl ?_
    refine pm_ (fe_ _) f_ p_ D_ rfl rfl rfl rfl rfl rfl fun b5=>?_
    refine mO_ (fe_ _) (news:=List.flatMap V_ [x]) co_ hr rfl rfl zp rfl (br_ 0 rfl) (fun u hu=>aA_ bU_ hu) (by simp only[maxLen];omega) (by omega) rfl fun sv1 Hr1 hr1=>?_
    have hq1:aD_ 3 1 sv1 (List.length (L++[x])) (List.flatMap V_ (L++[x])) Hr1:=by rw[List.length_append,List.flatMap_append];exact hr1
    refine qV_ (q_ (e_ d_) (q_ (e_ d_) (ao_ (e_ d_)))) ?_
    refine kF_ (fe_ _) 1 hq1 lI_ rfl rfl rfl rfl ?_
    refine jW_ ?_
    refine kn_ rfl ?_
    exact nL_ ⟨(sv1,Hr1,(L++[x])),hq1⟩ rfl (pf_as3 (g_ (c_ d_) (g_ (c_ d_) (o_ (c_ j_) (o_ G_ d_)))))
   ·intro l2 Gj hY
    exact pn_ (lst:=fun y:{y:Value×Hp×List Int // aD_ 3 1 y.1 y.2.2.length (y.2.2.flatMap V_) y.2.1}=>y.1.2.2) (fun s x h=>hY s x h) ⟨(.slice none 0 0,[],[]),aD_.nil _ _⟩ rfl (List.take (cn_ l xl+1) ts) ts (sad sd1 sc1 0 9) (sc1 - 0) bN HO hneu hordu (fun n s h=>dy_ h) ho (by omega) (fun s h=>hflu s (List.mem_of_mem_take h))
   rintro ⟨⟨sv,Hq,L⟩,hr⟩ hL D l2 r'
   dsimp only at hL hr ⊢
   refine ng_ (x_ (H':=(bN,.cells #[.slice (sad sd1 sc1 0 9) (List.length (List.take (cn_ l xl+1:Nat) ts)) (sc1 - 0)] 27 (0,0))::(HO++((b4,.cells #[sv] 46 (0,0))::(b2,.cells #[.slice none 0 0] 29 (0,0))::(Hq++HLp l2 D r')))) (by simp) ?_)
   have hLl:List.length L≤100000000:=sF_ hL hordu (by omega)
   refine nh_ rfl (x_ (q_ d_ (q_ (e_ d_) (ao_ (e_ d_)))) (Zz 3 ?_))
   refine n_ (pc_ L sv Hq hr (by omega)) rfl zp zt rfl fun⟨HQ2,hrv⟩=>?_
   dsimp only
   obtain⟨O,hO⟩:∃ O,O=List.reverse L:=⟨_,rfl⟩
   rw[← hO]at hrv
   have hOi:O.Pairwise (·<·):=by rw[hO,List.pairwise_reverse];exact hL.dec
   have hOn:∀ x∈O,∃ n:Nat,x=n∧Nd (List.take (cn_ l xl+1) ts) n:=fun x hx=>hL.nat x (by rw[hO]at hx;simpa using hx)
   have hOa:∀ n,Nd (List.take (cn_ l xl+1) ts) n→(n:Int)∈O:=fun n hn=>by rw[hO];simpa using hL.all n hn
   have hO0:∀ x∈O,0≤x:=fun x hx=>by obtain⟨n,e,_⟩:=hOn x hx;omega
   have hOl:List.length O≤100000000:=by rw[hO,List.length_reverse];exact hLl
   refine x_ (q_ (e_ d_) (q_ (e_ d_) (ao_ (e_ d_)))) (Zz 6 ?_)
   refine eJ_ (n:=List.length ts) (by':=8) Tryz.underlying46 (z:=(.int .i64 0)) zk rfl (by decide) rfl rfl (by omega) (by simp only[maxLen];omega) rfl fun svP HrP hrP=>?_
   have hqP:aD_ 3 1 svP (List.length (List.replicate (List.length ts) (0:Int))) (List.flatMap V_ (List.replicate (List.length ts) (0:Int))) HrP:=by rw[List.length_replicate,← fM_ V_];exact hrP
   refine Zz 4 ?_
   refine x_ (q_ (e_ d_) (q_ (e_ d_) (ao_ (e_ d_)))) (Zz 3 ?_)
   refine i_ (cw_ hrv f_ rfl) rfl (Zz 4 ?_)
   refine x_ (H':=([]:Hp)++((bN,.cells #[.slice (sad sd1 sc1 0 9) (List.length (List.take (cn_ l xl+1:Nat) ts)) (sc1 - 0)] 27 (0,0))::((b4,.cells #[sv] 46 (0,0))::((b2,.cells #[.slice none 0 0] 29 (0,0))::(HrP++(HQ2++(HO++(HLp l2 D r')))))))) (List.Perm.refl _) ?_
   refine U_ (ι:={y:Nat×List Int×List Stp×List Stp×Hp×Value×Hp×Value×Hp // y.1≤List.length O∧PlI ts O y.1 y.2.1 y.2.2.1 y.2.2.2.1∧je_ 3 y.2.2.1 y.2.2.2.2.1∧aD_ 3 1 y.2.2.2.2.2.1 (List.length y.2.1) (List.flatMap V_ y.2.1) y.2.2.2.2.2.2.1∧aD_ 48 9 y.2.2.2.2.2.2.2.1 (List.length y.2.2.2.1) (List.flatMap Stp.cells y.2.2.2.1) y.2.2.2.2.2.2.2.2}) (fun y=>[(2,zp_ b2 0),(7,.slice sd1 (List.length ts) sc1),(15,y.1.2.2.2.2.2.1),(108,sv),(109,.int .i64 (List.length O:Int)),(110,.int .i64 (y.1.1:Int))]) (fun y=>((b4,.cells #[sv] 46 (0,0))::((b2,.cells #[y.1.2.2.2.2.2.2.2.1] 29 (0,0))::(HQ2++(y.1.2.2.2.2.1++((HLp l2 D r')++(y.1.2.2.2.2.2.2.1++y.1.2.2.2.2.2.2.2.2))))))) (fun y=>[am_ sd1 (List.flatMap Stp.cells ts),am_ ad (List.flatMap Stp.cells l),aB_ l]) (fun y=>List.length O - y.1.1) ⟨((0:Nat),(List.replicate (List.length ts) 0),ts,[],HO,svP,HrP,(.slice none 0 0),[]),by simp,PlI.zero ts O,by exact ho,hqP,(aD_.nil 48 9)⟩ zl zp zh ?_
   rintro ⟨⟨k,pl,tk,Y,HO_k,sv_P,H_P,sv_Y,H_Y⟩,hi_k,hPl,ho_k,hr_P,hr_Y⟩
   dsimp only at hi_k hPl ho_k hr_P hr_Y ⊢
   refine Zi 2 (fun hr3=>?_) fun hr3=>?_
   ·refine Zz 7 ?_
    have ek:k=List.length O:=by omega
    subst ek
    refine ca_ hr_Y (c_ (c_ (e_ (e_ (e_ aa_))))) fun yad ycap hyad hcyad hmyad hzyad=>?_
    subst hyad
    refine qT_ (c_ (c_ (e_ j_))) ho_k ?_
    refine Zz 2 ?_
    refine y_ 1 bl_ rfl rfl rfl rfl rfl rfl (Zz 4 ?_)
    have hT:=hPl.done ht hord hxl hOi hOn hOa
    have hYl:=hPl.yl
    exact retMF ⟨(Y,yad,ycap,0),(fun _=>⟨rfl,⟨O,hT⟩,by dsimp only;omega,hcyad,hmyad,hzyad⟩),fun q=>absurd ⟨hne,hord⟩ q⟩ (fun aa v h1 h2 _=>ds_ 0 Tryz.results21 iY_ bl_ rfl rfl rfl rfl aa v h1 h2) (pf_D (B:=[_]) (g_ (c_ d_) (c_ (e_ j_)))) ⟨_,m_⟩ (fun v _ h=>by exact⟨h.2.1,kV_ h.1 (hPl.sub (Nat.le_refl _)),trivial⟩)
   obtain⟨hlx1,x1,hx1,hmx1⟩:=zge (show k<List.length O by omega)
   obtain⟨n,e_x1,hnd⟩:=hOn x1 hmx1
   subst e_x1
   have hs1l:n<List.length ts:=by have q:=ll_ hordu hnd;omega
   have hls1:n<List.length ts:=hs1l
   obtain⟨s1,hs1⟩:∃ e0,ts[n]? = some e0:=⟨_,List.getElem?_eq_getElem hls1⟩
   have hms1:s1∈ts:=List.mem_of_getElem? hs1
   have hU1:(List.take (cn_ l xl+1) ts)[n]? = some s1:=by rw[List.getElem?_take_of_lt (by have q:=ll_ hordu hnd;omega)];exact hs1
   have hpll:=hPl.pln
   have hlw1:n<List.length pl:=by omega
   obtain⟨w1,hw1⟩:∃ e0,pl[n]? = some e0:=⟨_,List.getElem?_eq_getElem hlw1⟩
   have hmw1:w1∈pl:=List.mem_of_getElem? hw1
   have htn:=hPl.at hOi hx1 hs1
   have hfs1:=hflu s1 hms1
   refine Zz 11 ?_
   refine i_ (as_ hrv f_ p_ rfl rfl (by omega) (by omega)) rfl (i_ (aE_ hrv zp T_ rfl (t_ M_ hx1 0 _ rfl)) rfl (Zz 9 ?_))
   refine i_ (as_ hr_P f_ p_ rfl rfl (by omega) (by omega)) rfl (cj_ (k:=(n:Int).toNat*1+0) hr_P zp p_ rfl rfl (by omega) rfl rfl fun Hr2 hr2=>?_)
   have hs2:=(dQ_ V_ 1 M_ pl n 0 w1 (k:Int) (.int .i64 (k:Int)) hw1 (by decide) rfl).trans (congrArg _ (rfl))
   have hq2:aD_ 3 1 sv_P (List.length (List.set pl n (k:Int))) (List.flatMap V_ (List.set pl n (k:Int))) Hr2:=by rw[← hs2,show List.length (List.set pl n (k:Int))=List.length pl from (List.length_set ..)];exact hr2
   refine Zz 2 ?_
   refine x_ (q_ (e_ d_) (ao_ (e_ d_))) (Zz 6 ?_)
   refine J_ bK_ rfl fun b6=>y_ 0 aq_ rfl rfl rfl rfl rfl rfl (Zz 4 ?_)
   obtain⟨Hs9,Hr9,hp1,hp2,hp3⟩:=ho_k.get htn
   refine x_ (List.Perm.trans (c_ (c_ (c_ (e_ (e_ j_))))) (hp1.append_right _)) (x_ (List.Perm.of_eq (List.append_assoc ..)) ?_)
   have hW0:aD_ 3 1 (.slice s1.ad (List.length s1.frm) s1.cap) (List.length (ez_ O s1.frm 0)) (List.flatMap V_ (ez_ O s1.frm 0)) Hs9:=by rw[pp_];exact hp2
   refine x_ (q_ (e_ (e_ d_)) (q_ (e_ (e_ d_)) (ao_ (e_ (e_ d_))))) (Zz 3 ?_)
   refine i_ (cw_ hW0 f_ rfl) rfl (Zz 4 ?_)
   refine U_ (ι:={y:Nat×Value×Hp // y.1≤List.length s1.frm∧y.2.1=.slice s1.ad (List.length s1.frm) s1.cap∧aD_ 3 1 y.2.1 (List.length (ez_ O s1.frm y.1)) (List.flatMap V_ (ez_ O s1.frm y.1)) y.2.2}) (fun y=>[(2,zp_ b2 0),(7,.slice sd1 (List.length ts) sc1),(15,sv_P),(108,sv),(109,.int .i64 (List.length O:Int)),(110,.int .i64 (k:Int)),(18,zp_ b6 0),(124,y.1.2.1),(125,.int .i64 (List.length (ez_ O s1.frm 0):Int)),(126,.int .i64 (y.1.1:Int))]) (fun y=>((b6,.cells #[.int .i64 s1.rule,.int .i64 (Fc.kind s1.fact),str (Fc.a s1.fact),str (Fc.b s1.fact),str (Fc.r s1.fact),.int .i64 (Fc.lo s1.fact),.int .i64 (Fc.hi s1.fact),.int .i64 s1.piece,.slice s1.ad (List.length s1.frm) s1.cap] 48 (0,0))::((b4,.cells #[sv] 46 (0,0))::((b2,.cells #[sv_Y] 29 (0,0))::(Hr9++(Hr2++(HQ2++((HLp l2 D r')++(H_Y++y.1.2.2))))))))) (fun y=>[am_ sd1 (List.flatMap Stp.cells ts),am_ ad (List.flatMap Stp.cells l),aB_ l]) (fun y=>List.length s1.frm - y.1.1) ⟨((0:Nat),(.slice s1.ad (List.length s1.frm) s1.cap),Hs9),by simp,rfl,hW0⟩ zl zp zh ?_
   rintro ⟨⟨j,sv_W,H_W⟩,hi_j,hsw,hr_W⟩
   dsimp only at hi_j hsw hr_W ⊢
   refine Zi 2 (fun hr4=>?_) fun hr4=>?_
   ·refine Zz 6 ?_
    have hmj:=fY_ O s1.frm 0
    have hYk:=hPl.yl
    have hor:oi_ 3 (Stp.mk s1.rule s1.fact s1.piece s1.ad s1.cap (List.map (pix O) s1.frm)) H_W:=by have q:=hr_W;rw[hsw,rf_ O s1.frm (by omega)]at q;unfold oi_;simp only[List.length_map]at q ⊢;exact q
    obtain⟨HO2,ho2,hpo⟩:=hp3 (Stp.mk s1.rule s1.fact s1.piece s1.ad s1.cap (List.map (pix O) s1.frm)) H_W hor
    refine x_ (List.Perm.trans (o_ (c_ (c_ (c_ (e_ (e_ (e_ (e_ aa_))))))) (c_ (c_ (c_ j_)))) (hpo.symm.append_right _)) (x_ (q_ (e_ d_) (q_ (e_ d_) (ao_ (e_ d_)))) (Zz 4 ?_))
    refine S_ O_ aq_ bK_ rfl rfl rfl rfl rfl rfl fun b7=>?_
    refine ak_ (news:=List.flatMap Stp.cells [s1]) ik_ hr_Y rfl rfl zp rfl (br_ 0 rfl) (fun u hu=>aA_ Stp.cells_one hu) (by simp only[maxLen];first|omega|(simp;omega)) (by first|omega|(simp;omega)) rfl fun sv3 Hr3 hr3=>?_
    have hq3:aD_ 48 9 sv3 (List.length (Y++[s1])) (List.flatMap Stp.cells (Y++[s1])) Hr3:=by rw[List.length_append,List.flatMap_append];exact hr3
    refine Zz 1 ?_
    refine x_ (q_ (e_ d_) (q_ (e_ d_) (q_ (e_ d_) (ao_ (e_ d_))))) (dL_ 3 hq3 eO_ rfl rfl rfl rfl (Zz 7 ?_))
    exact z_ ⟨(k+1,(List.set pl n (k:Int)),(List.set tk n (Stp.mk s1.rule s1.fact s1.piece s1.ad s1.cap (List.map (pix O) s1.frm))),(Y++[(Stp.mk s1.rule s1.fact s1.piece s1.ad s1.cap (List.map (pix O) s1.frm))]),HO2,sv_P,Hr2,sv3,Hr3),hlx1,hPl.step hOi hO0 hx1 hs1,ho2,hq2,(by have q:=hq3;rw[show List.flatMap Stp.cells (Y++[s1])=List.flatMap Stp.cells (Y++[(Stp.mk s1.rule s1.fact s1.piece s1.ad s1.cap (List.map (pix O) s1.frm))]) by rw[List.flatMap_append,List.flatMap_append];congr 1;simp[Stp.cells],show (Y++[s1]).length=(Y++[(Stp.mk s1.rule s1.fact s1.piece s1.ad s1.cap (List.map (pix O) s1.frm))]).length by simp]at q;exact q)⟩ (by dsimp only;omega) ⟨rfl,rfl,rfl,rfl,rfl,rfl,trivial⟩ (g_ (c_ (c_ d_)) (g_ (c_ (c_ d_)) (o_ (c_ (c_ (e_ (e_ (e_ j_))))) (o_ (c_ (c_ (e_ j_))) (o_ (c_ (c_ (e_ aa_))) (o_ (c_ (c_ aa_)) (c_ G_))))))) (fun _ _ h=>h)
   have hjl:j<List.length s1.frm:=by have q:=fY_ O s1.frm 0;omega
   have hlx2:j<List.length s1.frm:=hjl
   obtain⟨x2,hx2⟩:∃ e0,s1.frm[j]? = some e0:=⟨_,List.getElem?_eq_getElem hlx2⟩
   have hmx2:x2∈s1.frm:=List.mem_of_getElem? hx2
   have hmx:=re_ (O:=O) hx2
   have hlmx:j<List.length (ez_ O s1.frm j):=by rw[fY_];exact hjl
   have hx2b:=hord2 n s1 hs1 x2 hmx2
   have ex2:((Int.toNat x2:Nat):Int)=x2:=by omega
   have hmO:x2∈O:=by have q:=hOa (Int.toNat x2) (.step hnd hU1 (by rw[ex2];exact hmx2));rwa [ex2]at q
   have hpx:=hPl.place hOi hx1 hs1l hmO hx2b.1 hx2b.2
   have hlpx:=(List.getElem?_eq_some_iff.1 hpx).1
   refine Zz 11 ?_
   refine i_ (as_ hr_W f_ p_ rfl rfl (by omega) (by omega)) rfl (i_ (aE_ hr_W zp T_ rfl (t_ M_ hmx 0 _ rfl)) rfl (Zz 4 ?_))
   refine on_ (ι:={y:Value×Hp // aD_ 3 1 y.1 (List.length (ez_ O s1.frm (j+1))) (List.flatMap V_ (ez_ O s1.frm (j+1))) y.2∧y.1=.slice s1.ad (List.length s1.frm) s1.cap}) (fun y=>[(2,zp_ b2 0),(7,.slice sd1 (List.length ts) sc1),(15,sv_P),(108,sv),(109,.int .i64 (List.length O:Int)),(110,.int .i64 (k:Int)),(18,zp_ b6 0),(124,y.1.1),(125,.int .i64 (List.length (ez_ O s1.frm 0):Int)),(126,.int .i64 (j:Int))]) (fun y=>((b2,.cells #[sv_Y] 29 (0,0))::((b4,.cells #[sv] 46 (0,0))::((b6,.cells #[.int .i64 s1.rule,.int .i64 (Fc.kind s1.fact),str (Fc.a s1.fact),str (Fc.b s1.fact),str (Fc.r s1.fact),.int .i64 (Fc.lo s1.fact),.int .i64 (Fc.hi s1.fact),.int .i64 s1.piece,.slice s1.ad (List.length s1.frm) s1.cap] 48 (0,0))::((HLp l2 D r')++(Hr2++(HQ2++(y.1.2++(Hr9++H_Y))))))))) (fun y=>[am_ sd1 (List.flatMap Stp.cells ts),am_ ad (List.flatMap Stp.cells l),aB_ l]) ?_ ?_
   ·refine af_ ((b6,.cells #[.int .i64 s1.rule,.int .i64 (Fc.kind s1.fact),str (Fc.a s1.fact),str (Fc.b s1.fact),str (Fc.r s1.fact),.int .i64 (Fc.lo s1.fact),.int .i64 (Fc.hi s1.fact),.int .i64 s1.piece,.slice s1.ad (List.length s1.frm) s1.cap] 48 (0,0))::((b4,.cells #[sv] 46 (0,0))::((b2,.cells #[sv_Y] 29 (0,0))::(Hr9++(Hr2++(HQ2++((HLp l2 D r')++H_Y))))))) zk ?_
    refine s_ 1 [0,1,2,3,4,5,6,7] zk zs (Zz 1 ?_)
    refine R_ rfl (aU_ (bq_ 0 Tryz.isAgg46 rfl rfl rfl) (show _=sv_W from hsw.symm)) rfl (Zz 3 ?_)
    refine R_ rfl (as_ hq2 f_ p_ rfl rfl (by omega) (by omega)) rfl (R_ rfl (aE_ hq2 zp T_ rfl (t_ M_ hpx 0 _ rfl)) rfl (R_ rfl (as_ hr_W f_ p_ rfl rfl (by omega) (by omega)) rfl (dA_ (l_ 8 rfl zk (cj_ (k:=(j:Int).toNat*1+0) hr_W zp p_ rfl rfl (by omega) rfl rfl fun Hr4 hr4=>?_)))))
    have hs4:=(dQ_ V_ 1 M_ (ez_ O s1.frm j) j 0 x2 (pix O x2) (.int .i64 (pix O x2)) hmx (by decide) rfl).trans (congrArg _ (rd_ hx2))
    have hq4:aD_ 3 1 sv_W (List.length (ez_ O s1.frm (j+1))) (List.flatMap V_ (ez_ O s1.frm (j+1))) Hr4:=by rw[← hs4,show List.length (ez_ O s1.frm (j+1))=List.length (ez_ O s1.frm j) from (by rw[fY_,fY_])];exact hr4
    refine Zz 2 ?_
    refine K_ zs (Zz 2 ?_)
    exact ic_ ⟨(sv_W,Hr4),hq4,hsw⟩ zl zp zf
   rintro ⟨⟨sv_W,H_W⟩,hr_W,hsw⟩
   dsimp only at hr_W hsw ⊢
   refine du_ [(2,zp_ b2 0),(7,.slice sd1 (List.length ts) sc1),(15,sv_P),(108,sv),(109,.int .i64 (List.length O:Int)),(110,.int .i64 (k:Int)),(18,zp_ b6 0),(124,sv_W),(125,.int .i64 (List.length (ez_ O s1.frm 0):Int)),(126,.int .i64 (j:Int))] zl ?_
   refine Zz 6 ?_
   exact z_ ⟨(j+1,sv_W,H_W),hlx2,hsw,hr_W⟩ (by dsimp only;omega) zl zp zh
  obtain⟨hlx1,x1,hx1,hmx1⟩:=zge (show i<List.length l by omega)
  refine Zz 13 ?_
  refine J_ bK_ rfl fun b8=>Zz 1 ?_
  refine y_ 0 aq_ rfl rfl rfl rfl rfl rfl (Zz 10 ?_)
  refine n_ (qA_ x1.fact (i:Int) ks vs b3 es ck hE) rfl (c_ (c_ (c_ d_))) zt rfl fun⟨⟨⟨rc1,rn1⟩,er1,cr1⟩,hrc1,hrm1,hE1⟩=>?_
  dsimp only
  simp only[List.cons_append,List.nil_append]
  obtain⟨hk2,e_rn⟩:=KnI.recR hk hE.len hx1 hrm1
  subst e_rn
  have hlw1:i<List.length (fsI l i):=by rw[jq_ l hi_i];exact hlx1
  obtain⟨w1,hw1⟩:∃ e0,(fsI l i)[i]? = some e0:=⟨_,List.getElem?_eq_getElem hlw1⟩
  have hmw1:w1∈(fsI l i):=List.mem_of_getElem? hw1
  refine Zz 3 ?_
  refine i_ (as_ hr_F f_ p_ rfl rfl (by omega) (by omega)) rfl (cj_ (k:=(i:Int).toNat*1+0) hr_F zp p_ rfl rfl (by omega) rfl rfl fun Hr5 hr5=>?_)
  have hs5:=(dQ_ V_ 1 M_ (fsI l i) i 0 w1 (cn_ l x1:Int) (.int .i64 (cn_ l x1:Int)) hw1 (by decide) rfl).trans (congrArg _ (sP_ hx1))
  have hq5:aD_ 3 1 sv_F (List.length (fsI l (i+1))) (List.flatMap V_ (fsI l (i+1))) Hr5:=by rw[← hs5,show List.length (fsI l (i+1))=List.length (fsI l i) from (by rw[jq_ l hlx1,jq_ l hi_i])];exact hr5
  refine Zz 2 ?_
  refine x_ (q_ (e_ d_) (q_ (e_ d_) (q_ (e_ d_) (ao_ (e_ d_))))) (cb_ ?_)
  have hlts:i<List.length ts:=by rw[ht.len];exact hlx1
  obtain⟨t0,ht0⟩:∃ t0,ts[i]? = some t0:=⟨_,List.getElem?_eq_getElem hlts⟩
  refine Zz 4 ?_
  refine i_ (as_ hr_S O_ aq_ rfl rfl (by omega) (by omega)) rfl (nO_ (k:=i*9) (us:=Stp.cells x1) hr_S zp aq_ rfl rfl (by omega) (Stp.cells_len _) (by decide) (Stp.cells_one _) fun Hr6 hr6=>?_)
  have hs6:=oy_ Stp.cells 9 Stp.cells_len ts i x1 (by omega)
  have hq6:aD_ 48 9 sv_S (List.length (List.set ts i x1)) (List.flatMap Stp.cells (List.set ts i x1)) Hr6:=by rw[List.length_set,← hs6];exact hr6
  refine Zz 2 ?_
  refine x_ (q_ (e_ d_) (q_ (e_ d_) (q_ (e_ d_) (ao_ (e_ d_))))) (cb_ ?_)
  have hse:(List.set ts i x1)[i]? = some x1:=List.getElem?_set_self hlts
  have hsl:i<List.length (List.set ts i x1):=by rw[List.length_set];exact hlts
  refine Zz 3 ?_
  refine i_ (as_ hq6 O_ aq_ rfl rfl (by omega) (by omega)) rfl (Zz 1 ?_)
  refine cj_ (k:=(i:Int).toNat*9+8) hq6 zp lI_ rfl rfl (by omega) rfl rfl fun Hr7 hr7=>?_
  have hs7:=(dQ_ Stp.cells 9 Stp.cells_len (List.set ts i x1) i 8 x1 (Stp.mk x1.rule x1.fact x1.piece none 0 []) (.slice none 0 0) hse (by decide) rfl).trans (congrArg _ (List.set_set ..))
  have hq7:aD_ 48 9 sv_S (List.length (List.set ts i (Stp.mk x1.rule x1.fact x1.piece none 0 []))) (List.flatMap Stp.cells (List.set ts i (Stp.mk x1.rule x1.fact x1.piece none 0 []))) Hr7:=by rw[← hs7,show List.length (List.set ts i (Stp.mk x1.rule x1.fact x1.piece none 0 []))=List.length (List.set ts i x1) from (by rw[List.length_set,List.length_set])];exact hr7
  refine Zz 2 ?_
  refine x_ (q_ (e_ d_) (q_ (e_ d_) (q_ (e_ d_) (ao_ (e_ d_))))) (Zz 9 ?_)
  refine x_ (H':=([]:Hp)++((b3,.map er1 cr1)::((b8,.cells #[.int .i64 x1.rule,.int .i64 (Fc.kind x1.fact),str (Fc.a x1.fact),str (Fc.b x1.fact),str (Fc.r x1.fact),.int .i64 (Fc.lo x1.fact),.int .i64 (Fc.hi x1.fact),.int .i64 x1.piece,.slice x1.ad (List.length x1.frm) x1.cap] 48 (0,0))::((b2,.cells #[.slice none 0 0] 29 (0,0))::((b1,.cells #[.slice ad (List.length l) cap] 29 (0,0))::(Hr7++(Hr5++HO))))))) (List.Perm.refl _) ?_
  have hlx1f:=hfl x1 hmx1
  refine U_ (ι:={y:Nat×Option Addr×Nat×Value×Hp×Value×Hp×Value×Hp // y.1≤List.length x1.frm∧y.2.2.2.2.2.2.2.1=.slice y.2.1 (List.length (List.map (hF l) (List.take y.1 x1.frm))) y.2.2.1∧aD_ 3 1 y.2.2.2.1 (List.length (fsI l (i+1))) (List.flatMap V_ (fsI l (i+1))) y.2.2.2.2.1∧aD_ 48 9 y.2.2.2.2.2.1 (List.length (List.set ts i (Stp.mk x1.rule x1.fact x1.piece y.2.1 y.2.2.1 (List.map (hF l) (List.take y.1 x1.frm))))) (List.flatMap Stp.cells (List.set ts i (Stp.mk x1.rule x1.fact x1.piece y.2.1 y.2.2.1 (List.map (hF l) (List.take y.1 x1.frm))))) y.2.2.2.2.2.2.1∧aD_ 3 1 y.2.2.2.2.2.2.2.1 (List.length (List.map (hF l) (List.take y.1 x1.frm))) (List.flatMap V_ (List.map (hF l) (List.take y.1 x1.frm))) y.2.2.2.2.2.2.2.2}) (fun y=>[(2,zp_ b2 0),(3,.int .i64 0),(5,.map (some b3)),(6,y.1.2.2.2.1),(7,y.1.2.2.2.2.2.1),(37,.slice ad (List.length l) cap),(38,.int .i64 (List.length l:Int)),(39,.int .i64 (i:Int)),(8,.int .i64 (i:Int)),(64,.slice x1.ad (List.length x1.frm) x1.cap),(65,.int .i64 (List.length x1.frm:Int)),(66,.int .i64 (y.1.1:Int))]) (fun y=>((b3,.map er1 cr1)::((b8,.cells #[.int .i64 x1.rule,.int .i64 (Fc.kind x1.fact),str (Fc.a x1.fact),str (Fc.b x1.fact),str (Fc.r x1.fact),.int .i64 (Fc.lo x1.fact),.int .i64 (Fc.hi x1.fact),.int .i64 x1.piece,.slice x1.ad (List.length x1.frm) x1.cap] 48 (0,0))::((b2,.cells #[.slice none 0 0] 29 (0,0))::((b1,.cells #[.slice ad (List.length l) cap] 29 (0,0))::(HO++(y.1.2.2.2.2.1++(y.1.2.2.2.2.2.2.1++y.1.2.2.2.2.2.2.2.2)))))))) (fun y=>[am_ ad (List.flatMap Stp.cells l),aB_ l]) (fun y=>List.length x1.frm - y.1.1) ⟨((0:Nat),none,0,sv_F,Hr5,sv_S,Hr7,(.slice none 0 0),[]),by simp,rfl,hq5,hq7,(aD_.nil 3 1)⟩ zl zp zh ?_
  rintro ⟨⟨j,adj,cpj,sv_F,H_F,sv_S,H_S,sv_R,H_R⟩,hi_j,hsv,hr_F,hr_S,hr_R⟩
  dsimp only at hi_j hsv hr_F hr_S hr_R ⊢
  refine Zi 2 (fun hr5=>?_) fun hr5=>?_
  ·refine Zz 6 ?_
   have e9:List.take j x1.frm=Stp.frm x1:=List.take_of_length_le (by omega)
   have hoR:oi_ 3 (Stp.mk x1.rule x1.fact x1.piece adj cpj (List.map (hF l) x1.frm)) H_R:=by have q:=hr_R;rw[hsv]at q;rw[e9]at q;exact q
   obtain⟨HO2,ho2,hpo⟩:=qN_ ho ht0 (ht.rest i t0 (Nat.le_refl _) ht0) hoR
   refine x_ (List.Perm.trans (o_ (c_ (c_ (c_ (c_ (e_ (e_ aa_)))))) (c_ (c_ (c_ (c_ j_))))) (hpo.append_right _)) (Zz 5 ?_)
   exact z_ ⟨(i+1,(if x1.fact∈ks then ks else ks++[x1.fact]),(if x1.fact∈ks then vs else vs++[(i:Int)]),er1,cr1,(List.set ts i (Stp.mk x1.rule x1.fact x1.piece adj cpj (List.map (hF l) x1.frm))),HO2,sv_F,H_F,sv_S,H_S),hlx1,hE1,hk2,ht.step hx1 ⟨rfl,rfl,rfl,rfl⟩,ho2,hr_F,(by have e9:List.take j x1.frm=Stp.frm x1:=List.take_of_length_le (by omega);rw[e9]at hr_S;exact hr_S)⟩ (by dsimp only;omega) zl (g_ (e_ (c_ (c_ d_))) (g_ (e_ (c_ (c_ d_))) (g_ (e_ d_) (o_ j_ (o_ (c_ j_) G_))))) zh
  obtain⟨hlx2,x2,hx2,hmx2⟩:=zge (show j<List.length x1.frm by omega)
  refine Zz 10 ?_
  refine i_ (X_ f_ p_ rfl rfl (fun v _ h=>E_ (n:=1) M_ (by decide) (by exact (h.2.1 x1 hmx1)) hx2) (by omega) (by first|omega|(simp;done))) rfl ?_
  refine i_ (av_ (ad:=x1.ad) T_ rfl (fun v _ h=>by exact (h.2.1 x1 hmx1)) (t_ M_ hx2 0 _ rfl)) rfl (Zz 3 ?_)
  have hse:(List.set ts i (Stp.mk x1.rule x1.fact x1.piece adj cpj (List.map (hF l) (List.take j x1.frm))))[i]? = some (Stp.mk x1.rule x1.fact x1.piece adj cpj (List.map (hF l) (List.take j x1.frm))):=List.getElem?_set_self hlts
  have hsl:i<List.length (List.set ts i (Stp.mk x1.rule x1.fact x1.piece adj cpj (List.map (hF l) (List.take j x1.frm)))):=by rw[List.length_set];exact hlts
  have hx2b:=hord i x1 hx1 x2 hmx2
  have hx2n:Int.toNat x2<i+1:=by omega
  have hw2:=fsI_hF (l:=l) hx2n hlx1
  have hlw2:Int.toNat x2<List.length (fsI l (i+1)):=(List.getElem?_eq_some_iff.1 hw2).1
  refine on_ (ι:={y:Nat×Value×Hp×Value×Hp×Option Addr×Nat // aD_ 3 1 y.2.1 (List.length ((List.map (hF l) (List.take j x1.frm))++[(hF l x2)])) (List.flatMap V_ ((List.map (hF l) (List.take j x1.frm))++[(hF l x2)])) y.2.2.1∧aD_ 48 9 y.2.2.2.1 (List.length (List.set ts i (Stp.mk x1.rule x1.fact x1.piece y.2.2.2.2.2.1 y.2.2.2.2.2.2 ((List.map (hF l) (List.take j x1.frm))++[(hF l x2)])))) (List.flatMap Stp.cells (List.set ts i (Stp.mk x1.rule x1.fact x1.piece y.2.2.2.2.2.1 y.2.2.2.2.2.2 ((List.map (hF l) (List.take j x1.frm))++[(hF l x2)])))) y.2.2.2.2.1∧y.2.1=.slice y.2.2.2.2.2.1 (List.length ((List.map (hF l) (List.take j x1.frm))++[hF l x2])) y.2.2.2.2.2.2}) (fun y=>[(2,zp_ b2 0),(3,.int .i64 0),(5,.map (some b3)),(6,sv_F),(7,y.1.2.2.2.1),(37,.slice ad (List.length l) cap),(38,.int .i64 (List.length l:Int)),(39,.int .i64 (i:Int)),(8,.int .i64 (i:Int)),(64,.slice x1.ad (List.length x1.frm) x1.cap),(65,.int .i64 (List.length x1.frm:Int)),(66,.int .i64 (j:Int))]) (fun y=>((b1,.cells #[.slice ad (List.length l) cap] 29 (0,0))::((b2,.cells #[.slice none 0 0] 29 (0,0))::((b3,.map er1 cr1)::((b8,.cells #[.int .i64 x1.rule,.int .i64 (Fc.kind x1.fact),str (Fc.a x1.fact),str (Fc.b x1.fact),str (Fc.r x1.fact),.int .i64 (Fc.lo x1.fact),.int .i64 (Fc.hi x1.fact),.int .i64 x1.piece,.slice x1.ad (List.length x1.frm) x1.cap] 48 (0,0))::((y.1.1,.cells #[.int .i64 (hF l x2)] 3 (0,0))::(H_F++(HO++(y.1.2.2.1++y.1.2.2.2.2.1))))))))) (fun y=>[am_ ad (List.flatMap Stp.cells l),aB_ l]) ?_ ?_
  ·refine af_ ((b3,.map er1 cr1)::((b8,.cells #[.int .i64 x1.rule,.int .i64 (Fc.kind x1.fact),str (Fc.a x1.fact),str (Fc.b x1.fact),str (Fc.r x1.fact),.int .i64 (Fc.lo x1.fact),.int .i64 (Fc.hi x1.fact),.int .i64 x1.piece,.slice x1.ad (List.length x1.frm) x1.cap] 48 (0,0))::((b2,.cells #[.slice none 0 0] 29 (0,0))::((b1,.cells #[.slice ad (List.length l) cap] 29 (0,0))::(HO++H_F))))) zk ?_
   refine s_ 6 [0,1,2,3,4,5,7,8,9,10] zk zs (Zz 4 ?_)
   refine R_ rfl (as_ hr_S O_ aq_ rfl rfl (by omega) (by omega)) rfl (Zz 3 ?_)
   refine R_ rfl (as_ hr_F f_ p_ rfl rfl (by omega) (by omega)) rfl (R_ rfl (aE_ hr_F zp T_ rfl (t_ M_ hw2 0 _ rfl)) rfl (dA_ ?_))
   refine bT_ 6 11 rfl rfl zk ?_ ?_
   ·refine i_ (aU_ (aE_ hr_S zp Tryz.isAgg46 rfl (t_ Stp.cells_len hse 8 _ rfl)) (show _=sv_R from hsv.symm)) rfl (Zz 3 ?_)
    refine l_ 11 rfl zk (S_ f_ p_ D_ rfl rfl rfl rfl rfl rfl fun b9=>Zz 2 ?_)
    refine K_ zs (l_ 12 rfl zk (ak_ (news:=List.flatMap V_ [(hF l x2)]) co_ hr_R rfl rfl zp rfl (br_ 0 rfl) (fun u hu=>aA_ bU_ hu) (by simp only[maxLen];first|omega|(simp;omega)) (by first|omega|(simp;omega)) rfl fun sv8 Hr8 hr8=>?_))
    have hq8:aD_ 3 1 sv8 (List.length ((List.map (hF l) (List.take j x1.frm))++[(hF l x2)])) (List.flatMap V_ ((List.map (hF l) (List.take j x1.frm))++[(hF l x2)])) Hr8:=by rw[List.length_append,List.flatMap_append];exact hr8
    refine Zz 2 ?_
    refine K_ zs (s_ 1 [13,14] zk zs (R_ rfl (as_ hr_S O_ aq_ rfl rfl (by omega) (by omega)) rfl (Zz 2 ?_)))
    refine l_ 15 rfl zk (x_ (q_ (e_ d_) (q_ (e_ d_) (q_ (e_ d_) (q_ (e_ d_) (ao_ (e_ d_)))))) ?_)
    obtain⟨adn,cpn,hsvn0⟩:=jG_ hq8
    subst hsvn0
    have hsvn:Value.slice adn (List.length ((List.map (hF l) (List.take j x1.frm))++[(hF l x2)])) cpn=.slice adn (List.length ((List.map (hF l) (List.take j x1.frm))++[(hF l x2)])) cpn:=rfl
    refine cj_ (k:=(i:Int).toNat*9+8) hr_S zp lI_ rfl rfl (by omega) rfl rfl fun Hr9 hr9=>?_
    have hs9:=(dQ_ Stp.cells 9 Stp.cells_len (List.set ts i (Stp.mk x1.rule x1.fact x1.piece adj cpj (List.map (hF l) (List.take j x1.frm)))) i 8 (Stp.mk x1.rule x1.fact x1.piece adj cpj (List.map (hF l) (List.take j x1.frm))) (Stp.mk x1.rule x1.fact x1.piece adn cpn ((List.map (hF l) (List.take j x1.frm))++[(hF l x2)])) ((.slice adn (List.length ((List.map (hF l) (List.take j x1.frm))++[(hF l x2)])) cpn)) hse (by decide) rfl).trans (congrArg _ (List.set_set ..))
    have hq9:aD_ 48 9 sv_S (List.length (List.set ts i (Stp.mk x1.rule x1.fact x1.piece adn cpn ((List.map (hF l) (List.take j x1.frm))++[(hF l x2)])))) (List.flatMap Stp.cells (List.set ts i (Stp.mk x1.rule x1.fact x1.piece adn cpn ((List.map (hF l) (List.take j x1.frm))++[(hF l x2)])))) Hr9:=by rw[← hs9,show List.length (List.set ts i (Stp.mk x1.rule x1.fact x1.piece adn cpn ((List.map (hF l) (List.take j x1.frm))++[(hF l x2)])))=List.length (List.set ts i (Stp.mk x1.rule x1.fact x1.piece adj cpj (List.map (hF l) (List.take j x1.frm)))) from (by rw[List.length_set,List.length_set])];exact hr9
    refine Zz 2 ?_
    refine K_ zs (Zz 2 ?_)
    exact ic_ ⟨(b9,(.slice adn (List.length ((List.map (hF l) (List.take j x1.frm))++[(hF l x2)])) cpn),Hr8,sv_S,Hr9,adn,cpn),hq8,hq9,hsvn⟩ zl zp zf
   refine S_ f_ p_ D_ rfl rfl rfl rfl rfl rfl fun b10=>Zz 2 ?_
   refine K_ zs (l_ 6 rfl zk (i_ (aU_ (aE_ hr_S zp Tryz.isAgg46 rfl (t_ Stp.cells_len hse 8 _ rfl)) (show _=sv_R from hsv.symm)) rfl (Zz 2 ?_)))
   refine K_ zs (l_ 12 rfl zk (ak_ (news:=List.flatMap V_ [(hF l x2)]) co_ hr_R rfl rfl zp rfl (br_ 0 rfl) (fun u hu=>aA_ bU_ hu) (by simp only[maxLen];first|omega|(simp;omega)) (by first|omega|(simp;omega)) rfl fun sv10 Hr10 hr10=>?_))
   have hq10:aD_ 3 1 sv10 (List.length ((List.map (hF l) (List.take j x1.frm))++[(hF l x2)])) (List.flatMap V_ ((List.map (hF l) (List.take j x1.frm))++[(hF l x2)])) Hr10:=by rw[List.length_append,List.flatMap_append];exact hr10
   refine Zz 2 ?_
   refine K_ zs (s_ 1 [13,14] zk zs (R_ rfl (as_ hr_S O_ aq_ rfl rfl (by omega) (by omega)) rfl (Zz 2 ?_)))
   refine l_ 15 rfl zk (x_ (q_ (e_ d_) (q_ (e_ d_) (q_ (e_ d_) (q_ (e_ d_) (ao_ (e_ d_)))))) ?_)
   obtain⟨adn,cpn,hsvn0⟩:=jG_ hq10
   subst hsvn0
   have hsvn:Value.slice adn (List.length ((List.map (hF l) (List.take j x1.frm))++[(hF l x2)])) cpn=.slice adn (List.length ((List.map (hF l) (List.take j x1.frm))++[(hF l x2)])) cpn:=rfl
   refine cj_ (k:=(i:Int).toNat*9+8) hr_S zp lI_ rfl rfl (by omega) rfl rfl fun Hr11 hr11=>?_
   have hs11:=(dQ_ Stp.cells 9 Stp.cells_len (List.set ts i (Stp.mk x1.rule x1.fact x1.piece adj cpj (List.map (hF l) (List.take j x1.frm)))) i 8 (Stp.mk x1.rule x1.fact x1.piece adj cpj (List.map (hF l) (List.take j x1.frm))) (Stp.mk x1.rule x1.fact x1.piece adn cpn ((List.map (hF l) (List.take j x1.frm))++[(hF l x2)])) ((.slice adn (List.length ((List.map (hF l) (List.take j x1.frm))++[(hF l x2)])) cpn)) hse (by decide) rfl).trans (congrArg _ (List.set_set ..))
   have hq11:aD_ 48 9 sv_S (List.length (List.set ts i (Stp.mk x1.rule x1.fact x1.piece adn cpn ((List.map (hF l) (List.take j x1.frm))++[(hF l x2)])))) (List.flatMap Stp.cells (List.set ts i (Stp.mk x1.rule x1.fact x1.piece adn cpn ((List.map (hF l) (List.take j x1.frm))++[(hF l x2)])))) Hr11:=by rw[← hs11,show List.length (List.set ts i (Stp.mk x1.rule x1.fact x1.piece adn cpn ((List.map (hF l) (List.take j x1.frm))++[(hF l x2)])))=List.length (List.set ts i (Stp.mk x1.rule x1.fact x1.piece adj cpj (List.map (hF l) (List.take j x1.frm)))) from (by rw[List.length_set,List.length_set])];exact hr11
   refine Zz 2 ?_
   refine K_ zs (Zz 2 ?_)
   exact ic_ ⟨(b10,(.slice adn (List.length ((List.map (hF l) (List.take j x1.frm))++[(hF l x2)])) cpn),Hr10,sv_S,Hr11,adn,cpn),hq10,hq11,hsvn⟩ zl zp zf
  rintro ⟨⟨z16_11,sv_R,H_R,sv_S,H_S,adn,cpn⟩,hr_R,hr_S,hsvn⟩
  dsimp only at hr_R hr_S hsvn ⊢
  refine du_ [(2,zp_ b2 0),(3,.int .i64 0),(5,.map (some b3)),(6,sv_F),(7,sv_S),(37,.slice ad (List.length l) cap),(38,.int .i64 (List.length l:Int)),(39,.int .i64 (i:Int)),(8,.int .i64 (i:Int)),(64,.slice x1.ad (List.length x1.frm) x1.cap),(65,.int .i64 (List.length x1.frm:Int)),(66,.int .i64 (j:Int))] zl ?_
  refine Zz 6 ?_
  exact z_ ⟨(j+1,adn,cpn,sv_F,H_F,sv_S,H_S,sv_R,H_R),hlx2,(by rw[dm_ hx2];exact hsvn),hr_F,(by rw[dm_ hx2];exact hr_S),(by rw[dm_ hx2];exact hr_R)⟩ (by dsimp only;omega) zl zp zh
 refine Zz 5 ?_
 refine i_ (H_ ir_ rfl rfl) rfl (Zz 1 ?_)
 refine y_ 0 bl_ rfl rfl rfl rfl rfl rfl (Zz 4 ?_)
 exact retM ⟨([],none,0,ec),(fun q=>absurd (hec2 q) hr1),fun _=>⟨hec.resolve_left hr1,rfl,rfl,rfl⟩⟩ (fun aa v h1 h2 _=>ds_ 0 Tryz.results21 iY_ bl_ rfl rfl rfl rfl aa v h1 h2) m_ (fun v _ h=>by exact⟨.inl rfl,ev_,trivial⟩)
end Go.Proofs.YtkeanlfhghlgiaaGreatDoor
namespace Go.Proofs.YtkeanlfhghlgiaaGreatDoor
open Go Go.Sx Go.Proofs
attribute [local irreducible] Code.wp wpList wpAnyH
open Go.Vs
def rlP (x:Pc):Str:=if x.kind=3∨x.kind=7 then x.r else x.t
def hw_ (p:List Pc) (A:List Str):List Fc :=
  (A.flatMap fun a=>A.map fun b=>B_ a b)++((A.flatMap fun a=>A.flatMap fun b=>p.map fun x=>F_ a (rlP x) b)++(A.flatMap fun a=>p.flatMap fun x=>p.map fun z=>N_ a x.r x.lo z.hi))
theorem gf_ {α β:Type} {f:α→List β} {n:Nat} (h:∀ a,(f a).length=n):∀ l:List α,(l.flatMap f).length=l.length*n
  | []=>by simp
  | a::l=>by rw[List.flatMap_cons,List.length_append,h,gf_ h l,List.length_cons,Nat.succ_mul];omega
theorem pN_ (p:List Pc) (A:List Str):(hw_ p A).length=A.length*A.length+(A.length*(A.length*p.length)+A.length*(p.length*p.length)):=by
  unfold hw_
  rw[List.length_append,List.length_append,gf_ (n:=A.length) (fun a=>List.length_map ..),gf_ (n:=A.length*p.length) (fun a=>gf_ (n:=p.length) (fun b=>List.length_map ..) A),gf_ (n:=p.length*p.length) (fun a=>gf_ (n:=p.length) (fun b=>List.length_map ..) p)]
theorem iU_ {p:List Pc} {A:List Str} {a b:Str} (ha:a∈A) (hb:b∈A):B_ a b∈hw_ p A :=
  List.mem_append_left _ (List.mem_flatMap.2 ⟨a,ha,List.mem_map.2 ⟨b,hb,rfl⟩⟩)
theorem oJ_ {p:List Pc} {A:List Str} {a b r:Str} {x:Pc} (ha:a∈A) (hb:b∈A) (hx:x∈p) (hr:r=rlP x):F_ a r b∈hw_ p A :=
  List.mem_append_right _ (List.mem_append_left _ (List.mem_flatMap.2 ⟨a,ha,List.mem_flatMap.2 ⟨b,hb,List.mem_map.2 ⟨x,hx,by rw[hr]⟩⟩⟩))
theorem nu_ {p:List Pc} {A:List Str} {a r:Str} {lo hi:Int} {x z:Pc} (ha:a∈A) (hx:x∈p) (hz:z∈p) (h1:r=x.r) (h2:lo=x.lo) (h3:hi=z.hi):N_ a r lo hi∈hw_ p A :=
  List.mem_append_right _ (List.mem_append_right _ (List.mem_flatMap.2 ⟨a,ha,List.mem_flatMap.2 ⟨x,hx,List.mem_map.2 ⟨z,hz,by rw[h1,h2,h3]⟩⟩⟩))
theorem lC_ {p:List Pc} {A:List Str} {a r:Str} {lo hi:Int} (h:N_ a r lo hi∈hw_ p A):∃ x∈p,∃ z∈p,r=x.r∧lo=x.lo∧hi=z.hi:=by
 unfold hw_ at h
 rcases List.mem_append.1 h with h|h
 ·obtain⟨a',_,h⟩:=List.mem_flatMap.1 h
  obtain⟨b',_,h⟩:=List.mem_map.1 h
  exact absurd (congrArg Fc.kind h) (by simp[B_,N_])
 rcases List.mem_append.1 h with h|h
 ·obtain⟨a',_,h⟩:=List.mem_flatMap.1 h
  obtain⟨b',_,h⟩:=List.mem_flatMap.1 h
  obtain⟨x,_,h⟩:=List.mem_map.1 h
  exact absurd (congrArg Fc.kind h) (by simp[F_,N_])
 obtain⟨a',_,h⟩:=List.mem_flatMap.1 h
 obtain⟨x,hx,h⟩:=List.mem_flatMap.1 h
 obtain⟨z,hz,h⟩:=List.mem_map.1 h
 exact⟨x,hx,z,hz,(congrArg Fc.r h).symm,(congrArg Fc.lo h).symm,(congrArg Fc.hi h).symm⟩
theorem qR_ {p:List Pc} {S:Fc→Prop} (hp:∀ x∈p,x.valid=true) (hS:∀ y,S y→eT_ (atS p) y=true∧y∈hw_ p (atS p)) {y:Fc} (h:fL_ p (atS p) S y):eT_ (atS p) y=true∧y∈hw_ p (atS p):=by
 have hok:=qQ_ hp (fun y hy=>(hS y hy).1) h
 refine⟨hok,?_⟩
 cases h with
 | r1 h=>have q:=fo1.1 hok;exact iU_ q.1 q.2
 | r2 h=>have q:=fo1.1 hok;exact iU_ q.1 q.2
 | r10 hx hk h=>have q:=fo2.1 hok;exact oJ_ q.1 q.2.1 hx (by unfold rlP;rw[if_pos (.inr hk)])
 | r3 hx hk h=>have q:=fo1.1 hok;exact iU_ q.1 q.2
 | r4 hx hk h h'=>have q:=fo1.1 hok;exact iU_ q.1 q.2
 | r5 hx hk h=>have q:=fo2.1 hok;exact oJ_ q.1 q.2.1 hx (by unfold rlP;rw[if_pos (.inl hk)])
 | r6 hx hk h=>have q:=fo2.1 hok;exact oJ_ q.1 q.2.1 hx (by unfold rlP;rw[if_neg (by omega)])
 | r7 hx hk h h'=>have q:=fo2.1 hok;exact oJ_ q.1 q.2.1 hx (by unfold rlP;rw[if_neg (by omega)])
 | r8 hx hk h h'=>have q:=fo1.1 hok;exact iU_ q.1 q.2
 | r9 h h'=>have q:=fo1.1 hok;exact iU_ q.1 q.2
 | r11 hx hk h=>have q:=fo3.1 hok;exact nu_ q.1 hx hx rfl rfl rfl
 | @r12 a r lo hi lo' hi' h h' hm hl =>
   have q:=fo3.1 hok
   obtain⟨x,hx,z,hz,e1,e2,e3⟩:=lC_ (hS _ h).2
   obtain⟨x',hx',z',hz',e1',e2',e3'⟩:=lC_ (hS _ h').2
   have c1:max lo lo'=lo∨max lo lo'=lo':=by omega
   have c2:min hi hi'=hi∨min hi hi'=hi':=by omega
   rcases c1 with c1|c1<;>rcases c2 with c2|c2
   · exact nu_ q.1 hx hz e1 (c1.trans e2) (c2.trans e3)
   · exact nu_ q.1 hx hz' e1 (c1.trans e2) (c2.trans e3')
   · exact nu_ q.1 hx' hz e1' (c1.trans e2') (c2.trans e3)
   · exact nu_ q.1 hx' hz' e1' (c1.trans e2') (c2.trans e3')
 | r13 h h' hm hl=>have q:=fo1.1 hok;exact iU_ q.1 q.2
 | r14 hx hk h h1 h2=>have q:=fo1.1 hok;exact iU_ q.1 q.2
theorem rB_ {p:List Pc} (hp:∀ x∈p,x.valid=true) {y:Fc} (h:Der p (atS p) y):y∈hw_ p (atS p):=(h _ fun _ hy=>qR_ hp (fun _ h=>h) hy).2
theorem oC_ {p:List Pc} (hp:∀ x∈p,x.valid=true) (h14:p.length≤14) {l:List Stp} (hE:Eng p (atS p) l):l.length≤40000:=by
  have h1:=hE.len fun y hy=>rB_ hp hy
  rw[pN_]at h1
  have h2:=mj_ p
  have a1:(atS p).length≤44:=by omega
  have b1:(atS p).length*(atS p).length≤44*44:=Nat.mul_le_mul a1 a1
  have b2:(atS p).length*((atS p).length*p.length)≤44*(44*14):=Nat.mul_le_mul a1 (Nat.mul_le_mul a1 h14)
  have b3:(atS p).length*(p.length*p.length)≤44*(14*14):=Nat.mul_le_mul a1 (Nat.mul_le_mul h14 h14)
  omega
def gpI (gp:Nat→Nat) (i:Int):Int:=if i<0 then i else (gp i.toNat:Int)
theorem gx_ {gp:Nat→Nat}:gpI gp (-1)=-1:=rfl
theorem eX_ {gp:Nat→Nat} {k:Nat}:gpI gp (k:Int)=(gp k:Int):=by unfold gpI;rw[if_neg (by omega)];simp
theorem gpI_id (i:Int):gpI id i=i:=by unfold gpI;split<;>simp;omega
theorem rJ_ {p p':List Pc} {A A':List Str} {l l':List Stp} {g:Int→Int} {gp:Nat→Nat} {r:Int} {f:Fc} {i:Int} {fr:List Int} (hg:∀ (m:Nat) y,(m:Int)∈fr→At l m y→∃ k:Nat,g (m:Int)=k∧At l' k y) (hA:f.a∈A→f.a∈A') (hp:∀ (k:Nat) x,i=(k:Int)→p[k]? = some x→p'[gp k]? = some x)
    (h:Cor p A l r f i fr):Cor p' A' l' r f (gpI gp i) (fr.map g):=by
  cases h with
  | r1 h=>rw[gx_];exact .r1 (hA h)
  | r2 h=>rw[gx_];exact .r2 (hA h)
  | r10 hx hk h=>rw[eX_];exact .r10 (hp _ _ rfl hx) hk (hA h)
  | r3 hx hk h=>obtain⟨k,e,h⟩:=hg _ _ (by simp) h;rw[List.map_cons,e,eX_];exact .r3 (hp _ _ rfl hx) hk h
  | r4 hx hk h h'=>obtain⟨k,e,h⟩:=hg _ _ (by simp) h;obtain⟨k',e',h'⟩:=hg _ _ (by simp) h';rw[List.map_cons,List.map_cons,e,e',eX_];exact .r4 (hp _ _ rfl hx) hk h h'
  | r5 hx hk h=>obtain⟨k,e,h⟩:=hg _ _ (by simp) h;rw[List.map_cons,e,eX_];exact .r5 (hp _ _ rfl hx) hk h
  | r6 hx hk h=>obtain⟨k,e,h⟩:=hg _ _ (by simp) h;rw[List.map_cons,e,eX_];exact .r6 (hp _ _ rfl hx) hk h
  | r7 hx hk h h'=>obtain⟨k,e,h⟩:=hg _ _ (by simp) h;obtain⟨k',e',h'⟩:=hg _ _ (by simp) h';rw[List.map_cons,List.map_cons,e,e',eX_];exact .r7 (hp _ _ rfl hx) hk h h'
  | r8 hx hk h h'=>obtain⟨k,e,h⟩:=hg _ _ (by simp) h;obtain⟨k',e',h'⟩:=hg _ _ (by simp) h';rw[List.map_cons,List.map_cons,e,e',eX_];exact .r8 (hp _ _ rfl hx) hk h h'
  | r9 h h'=>obtain⟨k,e,h⟩:=hg _ _ (by simp) h;obtain⟨k',e',h'⟩:=hg _ _ (by simp) h';rw[List.map_cons,List.map_cons,e,e',gx_];exact .r9 h h'
  | r11 hx hk h=>obtain⟨k,e,h⟩:=hg _ _ (by simp) h;rw[List.map_cons,e,eX_];exact .r11 (hp _ _ rfl hx) hk h
  | r12 h h' hl=>obtain⟨k,e,h⟩:=hg _ _ (by simp) h;obtain⟨k',e',h'⟩:=hg _ _ (by simp) h';rw[List.map_cons,List.map_cons,e,e',gx_];exact .r12 h h' hl
  | r13 h h' hl=>obtain⟨k,e,h⟩:=hg _ _ (by simp) h;obtain⟨k',e',h'⟩:=hg _ _ (by simp) h';rw[List.map_cons,List.map_cons,e,e',gx_];exact .r13 h h' hl
  | r14 hx hk h h1 h2=>obtain⟨k,e,h⟩:=hg _ _ (by simp) h;rw[List.map_cons,e,eX_];exact .r14 (hp _ _ rfl hx) hk h h1 h2
  | r15 h=>obtain⟨k,e,h⟩:=hg _ _ (by simp) h;rw[List.map_cons,e,gx_];exact .r15 h
  | r16 h h1 h2=>obtain⟨k,e,h⟩:=hg _ _ (by simp) h;rw[List.map_cons,e,gx_];exact .r16 h h1 h2
theorem hp_ {α:Type} [DecidableEq α] {l:List α} (h:l.Nodup) {i:Nat} {x:α} (hx:l[i]? = some x):l.idxOf x=i:=by
 obtain⟨hi,rfl⟩:=List.getElem?_eq_some_iff.1 hx
 have h1:l.idxOf l[i]<l.length:=List.idxOf_lt_length_of_mem (List.getElem_mem hi)
 have h2:l[l.idxOf l[i]]=l[i]:=List.getElem_idxOf h1
 have h3:=List.pairwise_iff_getElem.1 h
 by_cases e:l.idxOf l[i]=i
 ·exact e
 by_cases e2:l.idxOf l[i]<i
 ·exact absurd h2 (h3 _ _ h1 hi e2)
 exact absurd h2.symm (h3 _ _ hi h1 (by omega))
theorem dM_ {l:List Stp} (h:(fcs l).Nodup) {i:Nat} {s:Stp} (hs:l[i]? = some s):cn_ l s=i:=hp_ h (by simp[fcs,hs])
theorem ty_ {l:List Stp} (h:(fcs l).Nodup) {q:Int} (h0:0≤q) (hq:q<l.length):hF l q=q:=by
  have hs:l[q.toNat]? = some (l[q.toNat]'(by omega)):=List.getElem?_eq_getElem (by omega)
  rw[nf_ hs,dM_ h hs];omega
theorem lM_ {O:List Int} (h:O.Pairwise (·<·)) {j:Nat} {x:Int} (hx:O[j]? = some x):pix O x=(j:Int):=by unfold pix;rw[hp_ (iC_ h) hx]
theorem ru_ {O:List Int} (h:O.Pairwise (·<·)) {i j:Nat} {x y:Int} (hx:O[i]? = some x) (hy:O[j]? = some y) (hxy:x<y):i<j:=by
 obtain⟨hi,rfl⟩:=List.getElem?_eq_some_iff.1 hx
 obtain⟨hj,rfl⟩:=List.getElem?_eq_some_iff.1 hy
 by_cases e:i<j
 ·exact e
 by_cases e2:i=j
 ·subst e2;omega
 have:=(List.pairwise_iff_getElem.1 h) j i hj hi (by omega);omega
theorem fT_ {p:List Pc} {A:List Str} {f:Fc} {L:List Stp} (h:PrfL p A f L):∀ (i:Nat) s,L[i]? = some s→∀ q∈s.frm,0≤q∧q<(i:Int):=fun i s hs q hq=>by
  have:=(h.cor i s hs).prem q hq
  have hi:=(List.getElem?_eq_some_iff.1 hs).1
  rw[List.length_take]at this;omega
theorem jk_ {p:List Pc} {A:List Str} {f:Fc} {L:List Stp} (h:PrfL p A f L):L≠[]:=fun e=>by have:=h.last;rw[e]at this;simp[fcs]at this
theorem gN_ {p:List Pc} {A:List Str} {f:Fc} {L:List Stp} (h:PrfL p A f L):∃ s,L[L.length - 1]? = some s∧s.fact=f:=by
  have:=h.last
  rw[List.getLast?_eq_getElem?,ii_]at this
  simp only[fcs,List.getElem?_map]at this
  cases hs:L[L.length - 1]? with
  | none=>rw[hs]at this;simp at this
  | some s=>rw[hs]at this;exact⟨s,rfl,by simpa using this⟩
structure TrmL (L Y:List Stp):Prop where
  le:Y.length≤L.length
  pcs:∀ y∈Y,∃ s∈L,y.piece=s.piece∧y.rule=s.rule∧y.fact=s.fact∧y.frm.length=s.frm.length
  used:∀ i,i+1<Y.length→∃ (k:Nat) (y:Stp),i<k∧Y[k]? = some y∧(i:Int)∈y.frm
section
variable {p:List Pc} {A:List Str} {f:Fc} {L Y:List Stp} {O:List Int}
theorem fP_ (h:TrimR L Y O) {j:Nat} {y:Stp} (hy:Y[j]? = some y):∃ (n:Nat) (s:Stp),O[j]? = some (n:Int)∧NdS L n∧L[n]? = some s∧y.rule=s.rule∧y.fact=s.fact∧y.piece=s.piece∧y.frm=s.frm.map fun q=>pix O (hF L q):=by
  have hj:=(List.getElem?_eq_some_iff.1 hy).1
  have hO:O[j]? = some (O[j]'(by rw[← h.len];exact hj)):=List.getElem?_eq_getElem _
  obtain⟨n,e,hn⟩:=h.nat _ (List.mem_of_getElem? hO)
  rw[e]at hO
  have hs:L[n]? = some (L[n]'(ix_ hn)):=List.getElem?_eq_getElem _
  exact⟨n,_,hO,hn,hs,h.step j n _ y hO hs hy⟩
theorem jD_ (h:TrimR L Y O) {n:Nat} {s:Stp} (hn:NdS L n) (hs:L[n]? = some s):∃ (j:Nat) (y:Stp),O[j]? = some (n:Int)∧Y[j]? = some y∧y.rule=s.rule∧y.fact=s.fact∧y.piece=s.piece∧y.frm=s.frm.map fun q=>pix O (hF L q):=by
  obtain⟨j,hj⟩:=List.getElem?_of_mem (h.all n hn)
  have hjl:=(List.getElem?_eq_some_iff.1 hj).1
  have hy:Y[j]? = some (Y[j]'(by rw[h.len];exact hjl)):=List.getElem?_eq_getElem _
  exact⟨j,_,hj,hy,h.step j n s _ hj hs hy⟩
theorem jN_ (hP:PrfL p A f L) {n:Nat} {s:Stp} (hn:NdS L n) (hs:L[n]? = some s) {q:Int} (hq:q∈s.frm):hF L q=q∧NdS L q.toNat∧0≤q∧q<n:=by
  have h1:=fT_ hP n s hs q hq
  have hnl:=(List.getElem?_eq_some_iff.1 hs).1
  have ht:L[q.toNat]? = some (L[q.toNat]'(by omega)):=List.getElem?_eq_getElem (by omega)
  have:=NdS.step hn hs hq ht
  rw[dM_ hP.nd ht]at this
  exact⟨ty_ hP.nd h1.1 (by omega),this,h1⟩
theorem oU_ (hP:PrfL p A f L) (h:TrimR L Y O):PrfL p A f Y:=by
 obtain⟨xl,hxl,hf⟩:=gN_ hP
 have hlast:=NdS.last hxl
 rw[dM_ hP.nd hxl]at hlast
 refine⟨fun j y hy=>?_,?_,?_,fun y hy=>?_⟩
 ·obtain⟨n,s,hO,hn,hs,e1,e2,e3,e4⟩:=fP_ h hy
  rw[e1,e2,e3,e4,← gpI_id s.piece]
  refine rJ_ (h:=hP.cor n s hs) (fun m y hm hat=>?_) (fun h=>h) (fun k x _ h=>h)
  obtain⟨g1,g2,g3,g4⟩:=jN_ hP hn hs hm
  rw[g1]
  rw[Int.toNat_natCast]at g2
  have hmn:m<n:=by omega
  obtain⟨t,ht,et⟩:=hat
  rw[List.getElem?_take_of_lt hmn]at ht
  obtain⟨k,z,hk,hz,_,z2,_⟩:=jD_ h g2 ht
  exact⟨k,lM_ h.inc hk,z,by rw[List.getElem?_take_of_lt (ru_ h.inc hk hO (by omega))];exact hz,z2.trans et⟩
 ·obtain⟨j,y,hj,hy,_,y2,_⟩:=jD_ h hlast hxl
  have hjl:=(List.getElem?_eq_some_iff.1 hj).1
  have e:j=Y.length - 1:=by
    rw[h.len]
    have hb:O[O.length - 1]? = some (O[O.length - 1]'(by omega)):=List.getElem?_eq_getElem (by omega)
    obtain⟨n,en,hn⟩:=h.nat _ (List.mem_of_getElem? hb)
    have:=ix_ hn
    by_cases e:j<O.length - 1
    · have:=(List.pairwise_iff_getElem.1 h.inc) j (O.length - 1) hjl (by omega) e
      have ej:=(List.getElem?_eq_some_iff.1 hj).2
      omega
    · omega
  subst e
  rw[List.getLast?_eq_getElem?,ii_]
  simp only[fcs,List.getElem?_map,hy,Option.map_some,y2,hf]
 ·refine List.pairwise_iff_getElem.2 fun i j hi hj hij=>?_
  rw[ii_]at hi hj
  obtain⟨n,s,hO,hn,hs,_,e2,_⟩:=fP_ h (List.getElem?_eq_getElem hi)
  obtain⟨m,t,hO',hm,ht,_,e2',_⟩:=fP_ h (List.getElem?_eq_getElem hj)
  simp only[fcs,List.getElem_map]
  rw[e2,e2']
  intro e
  have a1:=dM_ hP.nd hs
  have a2:=dM_ hP.nd ht
  unfold cn_ at a1 a2
  rw[e,a2]at a1
  subst a1
  have b1:=hp_ (iC_ h.inc) hO
  have b2:=hp_ (iC_ h.inc) hO'
  omega
 obtain⟨j,hj⟩:=List.getElem?_of_mem hy
 obtain⟨n,s,_,_,hs,e1,e2,_⟩:=fP_ h hj
 rw[e1,e2];exact hP.low s (List.mem_of_getElem? hs)
theorem oT_ (hP:PrfL p A f L) (h:TrimR L Y O):TrmL L Y:=by
 obtain⟨xl,hxl,hf⟩:=gN_ hP
 refine⟨?_,fun y hy=>?_,fun i hi=>?_⟩
 ·have h2:∀ x∈O,x∈(List.range L.length).map Int.ofNat:=fun x hx=>by
    obtain⟨n,e,hn⟩:=h.nat x hx
    exact List.mem_map.2 ⟨n,List.mem_range.2 (ix_ hn),e.symm⟩
  have:=fs_ (iC_ h.inc) h2
  rw[h.len];simpa using this
 ·obtain⟨j,hj⟩:=List.getElem?_of_mem hy
  obtain⟨n,s,_,_,hs,e1,e2,e3,e4⟩:=fP_ h hj
  exact⟨s,List.mem_of_getElem? hs,e3,e1,e2,by rw[e4,List.length_map]⟩
 obtain⟨n,s,hO,hn,hs,_⟩:=fP_ h (List.getElem?_eq_getElem (show i<Y.length by omega))
 cases hn with
 | @last s' hl =>
   exfalso
   rw[hxl]at hl;cases hl
   rw[dM_ hP.nd hxl]at hO
   rw[h.len]at hi
   have hb:O[i+1]? = some (O[i+1]'hi):=List.getElem?_eq_getElem _
   obtain⟨m,em,hm⟩:=h.nat _ (List.mem_of_getElem? hb)
   have:=ix_ hm
   have h3:=(List.pairwise_iff_getElem.1 h.inc) i (i+1) (by omega) hi (by omega)
   have ej:=(List.getElem?_eq_some_iff.1 hO).2
   omega
 | @step m s' t q hm hs' hq ht =>
   obtain⟨g1,g2,g3,g4⟩:=jN_ hP hm hs' hq
   rw[dM_ hP.nd ht]at hO
   obtain⟨k,y,hk,hy,_,_,_,y4⟩:=jD_ h hm hs'
   refine⟨k,y,ru_ h.inc hO hk (by omega),hy,?_⟩
   rw[y4]
   refine List.mem_map.2 ⟨q,hq,?_⟩
   rw[g1,show q=((q.toNat:Nat):Int) by omega]
   exact lM_ h.inc hO
theorem hB_ (hP:PrfL p A f L) (h:kD_ L Y):PrfL p A f Y:=by obtain⟨O,h⟩:=h;exact oU_ hP h
theorem hA_ (hP:PrfL p A f L) (h:kD_ L Y):TrmL L Y:=by obtain⟨O,h⟩:=h;exact oT_ hP h
end
def eV_ (p:List Pc) (f:Fc) (bu:Int) (Y:List Stp) (e:Int):Prop :=
  if wfB f=false then e=1∧Y=[]
  else ∃ c e0,fa_ p bu c e0∧(if e0=0 then (if nm_ c.facts f=false then e=110∧Y=[] else e=0∧∃ L,PrfL p (atS p) f L∧L.length≤40001∧kD_ L Y) else e=e0∧Y=[])
end Go.Proofs.YtkeanlfhghlgiaaGreatDoor
namespace Go.Proofs.YtkeanlfhghlgiaaGreatDoor
open Go Go.Sx Go.Proofs
attribute [local irreducible] Code.wp wpList wpAnyH
open Go.Vs
theorem qW_ {v:Vw} {Hq:Hp} (h:aj_ (Hq.reverse.map fun p=>ek_ p.1 p.2) v):∀ p∈Hq,v.im p.1∧v.w.heap[p.1]? = some p.2:=by
 have:∀ (l:Hp),aj_ (l.map fun p=>ek_ p.1 p.2) v→∀ p∈l,v.im p.1∧v.w.heap[p.1]? = some p.2:=by
   intro l
   induction l with
   | nil=>intro _ p hp;simp at hp
   | cons a l ih =>
     intro hl p hp
     rcases List.mem_cons.1 hp with rfl|hp
     · exact hl.1
     · exact ih hl.2 p hp
 exact fun p hp=>this _ h p (by simpa using hp)
theorem jM_ {p:List Pc} {A:List Str} {f:Fc} {L:List Stp} (h:PrfL p A f L):∀ s∈L,s.frm.length≤2:=fun s hs=>by
  obtain⟨i,hi⟩:=List.getElem?_of_mem hs
  exact (h.cor i s hi).two
theorem sd_ {f:Fc} (h:wfB f=true):f.kind=3→f=N_ f.a f.r f.lo f.hi:=fun hk=>by
 rcases ((lD_ f).1 h).2 with h|h|h
 ·omega
 ·omega
 exact h.2.2.1
theorem derB_l {F:List Fc} {l:List Stp} {f:Fc} (hF:∀ y∈F,y∈fcs l) (hd:nm_ F f=true):tu_ l f:=by
 unfold nm_ at hd
 obtain⟨x,hx,h⟩:=List.any_eq_true.1 hd
 simp only[Bool.or_eq_true,Bool.and_eq_true,decide_eq_true_eq]at h
 rcases h with (rfl|rfl)|⟨⟨e1,e2⟩,h3,h4⟩
 ·exact .inl (hF _ hx)
 ·exact .inr (.inl (hF _ hx))
 exact .inr (.inr ⟨by rw[e1];rfl,x,hF _ hx,by rw[e2];rfl,by rw[e2];rfl,by rw[e2];rfl,h3,h4⟩)
theorem sY_ {p:List Pc} {bu e:Int} {c:Cl} {l:List Stp} {x:Jx} {f:Fc} (hca:Cl.atoms c=atS p) (hA:fa_ p bu c e) (he:e=0) (hv:∀ z∈p,z.vok) (hL:LoopP p c.atoms l.length l x) (hd:nm_ c.facts f=true):tu_ l f:=by
  subst he
  obtain⟨_,_,_,_,_,h⟩:=hA.good
  exact derB_l (fun y hy=>(hL.done hv y).1 (by rw[hca];exact (h.2.1 y).1 hy)) hd
theorem km_ (p:List Pc) (pad:Option Addr) (pcap:Nat) (f:Fc) (bu:Int) (hsm:∀ x∈p,x.sm) (h14:p.length≤14):Tri Tryz.prog 12 #[.slice pad (List.length p) pcap,Fc.val f,.int .i64 bu] [] [am_ pad (List.flatMap Pc.cells p),gH_] (fun y:{y:List Stp×Option Addr×Nat×Int // eV_ p f bu y.1 y.2.2.2∧y.1.length≤65536∧y.1.length≤y.2.2.1∧y.2.2.1≤maxLen∧(y.2.1=none→y.2.2.1=0)}=>.tuple #[.agg #[.slice y.1.2.1 y.1.1.length y.1.2.2.1],.int .i64 y.1.2.2.2]) (fun _=>[]) (fun y=>[am_ y.1.2.1 (List.flatMap Stp.cells y.1.1),aB_ y.1.1]):=by
 refine w_ Tryz.func12 rfl rfl Tryz.ntmps12 rfl fun v0=>?_
 refine Zz 2 ?_
 refine ay_ rfl rfl fun b1=>J_ cy_ rfl fun b2=>Zz 7 ?_
 refine bn_ (isWf_c f) rfl m_ zt rfl fun r1 hr1=>i_ (bI_ rfl) rfl (Zz 2 ?_)
 cases r1
 ·refine Zz 3 ?_
  refine i_ (H_ ir_ rfl rfl) rfl (y_ 0 bl_ rfl rfl rfl rfl rfl rfl (Zz 4 ?_))
  exact su_ ⟨([],none,0,1),by unfold eV_;rw[if_pos hr1];exact⟨rfl,rfl⟩,by simp,Nat.le_refl _,Nat.zero_le _,fun _=>rfl⟩ (fun aa v h1 h2 _=>ds_ 0 Tryz.results12 iY_ bl_ rfl rfl rfl rfl aa v h1 h2) m_ (fun v _ h=>by exact⟨.inl rfl,ev_,trivial⟩)
 refine Zz 7 ?_
 refine n_ (all_c p pad pcap bu hsm (by omega)) rfl m_ zf rfl fun⟨⟨c1,e1⟩,hA1⟩=>?_
 dsimp only
 dsimp only at hA1
 have hcl1:=hA1.len
 refine Zz 3 ?_
 refine J_ Tryz.zeroValue39 rfl fun b3=>y_ 0 aQ_ rfl rfl rfl rfl rfl rfl (Zi 7 (fun hr2=>?_) fun hr2=>?_)
 ·have hgd:fa_ p bu c1 0:=by have q:=hA1;rwa [hr2]at q
  obtain⟨hck,_,_,_,hca,_⟩:=hgd.good
  have hpv:=ha_ hck
  have hvk:∀ z∈p,z.vok:=fun z hz=>hi_ (hpv z hz)
  have hB:∀ l,Eng p c1.atoms l→l.length≤65536:=fun l hl=>by rw[hca]at hl;have:=oC_ hpv h14 hl;omega
  refine Zz 10 ?_
  refine bn_ (der_c c1 f (by omega)) rfl m_ zf rfl fun r3 hr3=>i_ (bI_ rfl) rfl (Zz 2 ?_)
  cases r3
  ·refine Zz 3 ?_
   refine i_ (H_ ir_ rfl rfl) rfl (y_ 1 bl_ rfl rfl rfl rfl rfl rfl (Zz 4 ?_))
   exact su_ ⟨([],none,0,110),by unfold eV_;rw[if_neg (by simp[hr1])];exact⟨c1,e1,hA1,by rw[if_pos hr2,if_pos hr3];exact⟨rfl,rfl⟩⟩,by simp,Nat.le_refl _,Nat.zero_le _,fun _=>rfl⟩ (fun aa v h1 h2 _=>ds_ 1 Tryz.results12 iY_ bl_ rfl rfl rfl rfl aa v h1 h2) m_ (fun v _ h=>by exact⟨.inl rfl,ev_,trivial⟩)
  refine Zz 6 ?_
  refine n_ (lO_ p pad pcap (by omega)) rfl m_ zf rfl fun⟨⟨B,fm,Hpm⟩,⟨hfd,hmm⟩,ebp,ebc⟩=>?_
  dsimp only
  dsimp only at hfd hmm ebp ebc
  subst ebp
  subst ebc
  dsimp only[PNew.own]
  obtain⟨afm,hafm⟩:=aS_.lent (P:=Tryz.prog) (kt:=111) eA_ hmm
  refine ib_ Hpm (c_ (c_ (c_ (c_ (c_ (c_ (c_ (c_ j_)))))))) (gQ_ (Γ':=mlF Tryz.prog 111 Ky.val V_ B.pb fm afm::[am_ c1.aad (List.flatMap aV_ c1.atoms),am_ c1.fad (List.flatMap Fc.cells c1.facts),am_ B.pad (List.flatMap Pc.cells p),gH_]) (fun v _ hv=>?_) ?_)
  ·rw[eq_]at hv
   exact⟨hafm v (qW_ hv.1),hv.2⟩
  refine Zz 7 ?_
  refine i_ (bq_ 8 Tryz.isAgg36 rfl rfl rfl) rfl (n_ (pC_ B p c1.atoms c1.aad c1.acap fm afm hvk hfd (by omega) ⟨.slice none 0 0,#[],0,[]⟩ ⟨aD_.nil _ _,IntE.nil⟩ hB (by omega) [(B.ab,.map #[] 0)] [(B.ub,.map #[] 0)] [(B.ob,.map #[] 0)] [(B.ib,.map #[] 0)] [(B.rb,.map #[] 0)] [(B.sb,.map #[] 0)] (aS_.nil _ _) (aS_.nil _ _) (aS_.nil _ _) (aS_.nil _ _) (aS_.nil _ _) (aS_.nil _ _)) rfl zp (fun v _ h=>by exact⟨ev_,h.2.2.2.1,h.1,h.2.1,trivial⟩) rfl fun⟨⟨⟨l,x⟩,z,ih⟩,hS,hL,hJ⟩=>?_)
  dsimp only
  simp only[List.cons_append,List.append_assoc,List.nil_append]
  dsimp only at hS hL hJ
  refine Zz 2 ?_
  refine x_ (q_ d_ (q_ d_ (q_ (e_ (e_ (e_ (e_ (e_ (e_ (e_ d_))))))) (q_ (e_ (e_ (e_ (e_ (e_ (e_ (e_ d_))))))) (ao_ (e_ (e_ (e_ (e_ (e_ (e_ aa_))))))))))) (Zz 4 ?_)
  refine n_ (no_ B p c1.atoms hvk f l x z.sv z.es z.c z.h hS.1 hS.2 hL hB (sY_ hca hA1 hr2 hvk hL hr3) (sd_ hr1) ih.r hJ.2.2.2.2.1) rfl zp zf rfl fun⟨⟨L,lad,lcap⟩,hP,hLl,hLc,hLm,hLz⟩=>?_
  dsimp only
  dsimp only at hP hLl hLc hLm hLz
  rw[hca]at hP
  have hl40:=oC_ hpv h14 (hca▸hL.eng)
  have hLo:jf_ L:=⟨jk_ hP,fT_ hP⟩
  refine i_ (H_ ir_ rfl rfl) rfl (n_ (lE_ L lad lcap (by omega) (fun s hs=>Nat.le_trans (jM_ hP s hs) (by decide))) rfl m_ zf rfl fun⟨⟨Y,yad,ycap,yE⟩,hT1,hT2⟩=>?_)
  dsimp only
  dsimp only at hT1 hT2
  obtain⟨hy0,hTi,hYl,hYc,hYm,hYz⟩:=hT1 hLo
  have hYL:=(hA_ hP hTi).le
  refine Zz 2 ?_
  refine y_ 1 bl_ rfl rfl rfl rfl rfl rfl (Zz 4 ?_)
  exact su_ ⟨(Y,yad,ycap,yE),by unfold eV_;rw[if_neg (by simp[hr1])];exact⟨c1,e1,hA1,by rw[if_pos hr2,if_neg (by simp[hr3])];exact⟨hy0,L,hP,by omega,hTi⟩⟩,by dsimp only;omega,hYc,hYm,hYz⟩ (fun aa v h1 h2 _=>ds_ 1 Tryz.results12 iY_ bl_ rfl rfl rfl rfl aa v h1 h2) m_ zf
 refine Zz 5 ?_
 refine i_ (H_ ir_ rfl rfl) rfl (Zz 1 ?_)
 refine y_ 1 bl_ rfl rfl rfl rfl rfl rfl (Zz 4 ?_)
 exact su_ ⟨([],none,0,e1),by unfold eV_;rw[if_neg (by simp[hr1])];exact⟨c1,e1,hA1,by rw[if_neg hr2];exact⟨rfl,rfl⟩⟩,by simp,Nat.le_refl _,Nat.zero_le _,fun _=>rfl⟩ (fun aa v h1 h2 _=>ds_ 1 Tryz.results12 iY_ bl_ rfl rfl rfl rfl aa v h1 h2) m_ (fun v _ h=>by exact⟨.inl rfl,ev_,trivial⟩)
end Go.Proofs.YtkeanlfhghlgiaaGreatDoor
namespace Go.Proofs.YtkeanlfhghlgiaaGreatDoor
open Go Go.Sx Go.Proofs
attribute [local irreducible] Code.wp wpList wpAnyH
open Go.Vs Go.ChangeShapes Go.WideShapes Go.ChangeAt Go.RowKit
structure Tys2 (P:Program) (tI tS tSs tF tFs tK:TypeId):Prop where
  f:∃ fs,P.underlying tF=some (.struct fs)∧fs.toList.map (fun f=>(f.type,f.offset))=[(tI,0),(tS,1),(tS,2),(tS,3),(tI,4),(tI,5)]
  fs:P.underlying tFs=some (.slice tF)
  k:∃ fs,P.underlying tK=some (.struct fs)∧fs.toList.map (fun f=>(f.type,f.offset))=[(tSs,0),(tFs,1)]
  cf:P.cellsOf tF=6
  cfs:P.cellsOf tFs=1
  ck:P.cellsOf tK=2
  bf:P.bytesOf tF=72
structure bigF (f:Fc):Prop where
  a:f.a.length≤140737488351232
  b:f.b.length≤140737488351232
  r:f.r.length≤140737488351232
section
variable {H:Type} {enc:TypeId×Value→H} {P:Program} {W:World} {tI tB tS tSs tC tCs tA tAs tP tPs tF tFs tK:TypeId} (X:Tys P tI tB tS tSs tC tCs tA tAs tP tPs) (Z:Tys2 P tI tS tSs tF tFs tK)
include X Z
theorem fc_of {n:Nat} {cs:List Value} {x:DataW H×List MemPlace} (h:DataW.trod enc P W 0 (fun _=>true) true n tF cs=some x) (hw:wok (x.1.weights P tF)):∃ f:Fc,cs=f.cells∧bigF f:=by
  obtain⟨fs,hu,hL⟩:=Z.f
  obtain⟨xs,m,hn,hx,hl,hlen,hf,hwe⟩:=fields_of hu hL h
  rw[hwe]at hw
  match xs,hlen with
  | [x0,x1,x2,x3,x4,x5],_ =>
  simp only[List.map_cons,List.map_nil,DataW.weightsEach,fj_]at hw
  have f0:=hf 0 _ rfl;have f1:=hf 1 _ rfl;have f2:=hf 2 _ rfl;have f3:=hf 3 _ rfl;have f4:=hf 4 _ rfl;have f5:=hf 5 _ rfl
  simp only[List.getElem?_cons_zero,List.getElem?_cons_succ,X.ci,X.cs1]at f0 f1 f2 f3 f4 f5
  obtain⟨k,e0,_,_⟩:=hI_ X f0
  obtain⟨a,e1,n1⟩:=Go.Vs.str_of X f1 hw.2.1
  obtain⟨b,e2,n2⟩:=Go.Vs.str_of X f2 hw.2.2.1
  obtain⟨r,e3,n3⟩:=Go.Vs.str_of X f3 hw.2.2.2.1
  obtain⟨lo,e4,_,_⟩:=hI_ X f4
  obtain⟨hi,e5,_,_⟩:=hI_ X f5
  rw[Z.cf]at hl
  match cs,hl with
  | [c0,c1,c2,c3,c4,c5],_ =>
  simp only[List.drop_succ_cons,List.drop_zero,List.take_succ_cons,List.take_zero,List.cons.injEq,and_true]at e0 e1 e2 e3 e4 e5
  subst e0 e1 e2 e3 e4 e5
  exact⟨⟨k,a,b,r,lo,hi⟩,rfl,n1,n2,n3⟩
variable {base:Nat} {v:Value} {d:DataW H} {ps:List MemPlace}
theorem arg_fc (hval:Value.okWide P W .any base tF v) (h:DataW.Trod enc P W 0 (fun _=>true) true tF v d ps) (hw:wok (d.weights P tF)):∃ f:Fc,v=f.val∧bigF f:=by
  obtain⟨fs,hu,_⟩:=Z.f
  unfold Value.okWide at hval
  rw[hu]at hval
  obtain⟨cs,rfl,_⟩:=hval
  obtain⟨n,hn⟩:=h
  obtain⟨f,e,h1⟩:=fc_of X Z hn hw
  refine⟨f,?_,h1⟩
  simp only[Value.cells]at e
  rw[Fc.val,← e]
end
end Go.Proofs.YtkeanlfhghlgiaaGreatDoor
namespace Go.Proofs.YtkeanlfhghlgiaaGreatDoor
open Go Go.Sx Go.Proofs
attribute [local irreducible] Code.wp wpList wpAnyH
open Go.Vs Go.ChangeShapes Go.WideShapes Go.ChangeAt Go.RowKit
theorem own:ownKnob Tryz.prog.godebug=none:=by kernel_rfl
def ke_ : List (String × DataW Unit) := [("unicode/utf8.acceptRanges", Rows.laid_unicode_utf8_acceptRanges), ("veilstone/normal.uses", Rows.laid_veilstone_normal_uses), ("unicode/utf8.first", Rows.laid_unicode_utf8_first)]
theorem kids:Kids Tryz.prog (·<Tryz.prog.types.size):=kids_rows (by kernel_rfl) (by kernel_rfl)
theorem full:∀ t e,t<Tryz.prog.types.size→Tryz.prog.underlying t=some (.slice e)→0<Tryz.prog.cellsOf e:=slices_full_of _ (by kernel_rfl)
theorem rc_:Tryz.prog.types.size=232:=by kernel_rfl
theorem tysX:Tys Tryz.prog 3 4 9 36 0 0 0 0 52 22 where
  i:=bp_
  b:=Tryz.underlying4
  s:=az_
  ss:=kS_
  p:=⟨_,kR_,rfl⟩
  ps:=Tryz.underlying22
  ci:=by kernel_rfl
  cb:=by kernel_rfl
  cs1:=by kernel_rfl
  css:=by kernel_rfl
  cp:=by kernel_rfl
  bs:=by kernel_rfl
  bp:=by kernel_rfl
theorem iX_ {W:World} (h:laidMetH Tryz.prog ke_ W):∃ T fz,W.heap[0]? = some (.cells (gu_ (H:=Unit) Rows.laid_veilstone_normal_uses).toArray T fz):=by
  rw[MakeChecks.laidMetH_plain _ _ _ zk]at h
  exact qg_ kids (name := "veilstone/normal.uses") h (by simp [ke_]) (g := 0) (t := 141) zk zk (by rw [rc_]; decide) (m := 4) zk
theorem ss_ {W:World} {g:Nat} {l:List Value} {d:List Value} (h:∃ T fz,W.heap[g]? = some (.cells l.toArray T fz)) (e:l=d):bz_ (vw W) (some ⟨g,0,none⟩) d:=by
  obtain⟨T,fz,h⟩:=h
  subst e
  exact .inr ⟨g,0,_,T,fz,rfl,(Array.getElem?_eq_some_iff.1 h).1,h,fun j x hj=>by rw[Nat.zero_add];simpa using hj⟩
theorem sh_ {W:World} (h:laidMetH Tryz.prog ke_ W):gH_.p (vw W):=ss_ (iX_ h) (by kernel_rfl)
theorem tysZ:Tys2 Tryz.prog 3 9 36 24 37 39 where
  f:=⟨_,kT_,rfl⟩
  fs:=Tryz.underlying37
  k:=⟨_,Tryz.underlying39,rfl⟩
  cf:=by kernel_rfl
  cfs:=by kernel_rfl
  ck:=by kernel_rfl
  bf:=by kernel_rfl
end Go.Proofs.YtkeanlfhghlgiaaGreatDoor
