/-
  Part of the proof of the law ProofToolsSpec over this seat: the small logic, the data, the contracts of functions (no condition).
-/
import Derived.Test.YtkeanlfhghlgiaaGreatDoorQProofToolsSpec11
import Derived.Test.YtkeanlfhghlgiaaGreatDoorQProofToolsSpec6
import Derived.Test.YtkeanlfhghlgiaaGreatDoorQProofToolsSpec7
import Derived.Test.YtkeanlfhghlgiaaGreatDoorQProofToolsSpec8
import Derived.Test.YtkeanlfhghlgiaaGreatDoorQProofToolsSpec9
import Derived.Test.YtkeanlfhghlgiaaGreatDoorQProofToolsSpec3
import Derived.Test.YtkeanlfhghlgiaaGreatDoorRows
set_option linter.unusedVariables false
set_option linter.unusedSimpArgs false
set_option linter.unusedSectionVars false
set_option maxHeartbeats 1000000
namespace Go.Proofs.YtkeanlfhghlgiaaGreatDoor
open Go Go.Sx Go.Proofs
attribute [local irreducible] Code.wp wpList wpAnyH
open Go.Vs
def wfB (f:Fc):Bool:=decide (f.a≠[])&&(if f.kind=1 then decide (f.b≠[])&&decide (f=C_ f.a f.b)
  else if f.kind=2 then decide (f.b≠[])&&(decide (f.r≠[])&&decide (f=I_ f.a f.r f.b))
  else if f.kind=3 then decide (f.r≠[])&&(decide (f=T_ f.a f.r f.lo f.hi)&&(decide (-1099511627776≤f.lo)&&(decide (f.lo≤f.hi)&&decide (f.hi≤1099511627776))))
  else false)
theorem lY_ (f:Fc):wfB f=true↔f.wf:=by
 unfold wfB Fc.wf
 rw[Bool.and_eq_true]
 refine and_congr (by simp) ?_
 by_cases h1:f.kind=1
 ·rw[if_pos h1];simp[h1]
 rw[if_neg h1]
 by_cases h2:f.kind=2
 ·rw[if_pos h2];simp[h2]
 rw[if_neg h2]
 by_cases h3:f.kind=3
 ·rw[if_pos h3];simp[h3]
 rw[if_neg h3];simp[h1,h2,h3]
theorem isWf_c (f:Fc):Fn0 Tryz.prog 31 #[Fc.val f] (.bool (wfB f)):=by
 refine w_ Tryz.func31 rfl rfl Tryz.ntmps31 rfl fun v0=>?_
 refine Zz 2 ?_
 refine as_ rfl rfl fun b1=>Zi 8 (fun hr1=>?_) fun hr1=>?_
 ·refine Zi 15 (fun hr2=>?_) fun hr2=>?_
  ·refine Zi 6 (fun hr3=>?_) fun hr3=>?_
   ·refine Zi 6 (fun hr4=>?_) fun hr4=>?_
    ·refine Zz 12 ?_
     exact al_ cQ_ () (x_ rfl (by have p1:=eq_false hr1;have p2:=eq_false hr2;have p3:=eq_false hr3;have p4:=eq_false hr4;simp only[wfB,p1,p2,p3,p4,if_true,if_false,decide_true,decide_false,Bool.and_true,Bool.and_false,Bool.true_and,Bool.false_and,Bool.or_true,Bool.or_false,Bool.true_or,Bool.false_or,Bool.not_true,Bool.not_false,ne_eq,not_true_eq_false,not_false_eq_true,true_and,and_true,false_and,and_false,true_or,or_true,false_or,or_false,ite_true,ite_false,Bool.false_eq_true])) m_ zt
    refine Zz 6 ?_
    refine s_ 30 [0,1,2,3] zk zs (Zi 2 (fun hr5=>?_) fun hr5=>?_)
    ·refine Zz 2 ?_
     refine s_ 0 [4,5,6,7,8,9,10,11,12,13,14,15,16,17,18,19,20,21,22,23,24,25,26,27,28,29,30,31,32,33] zk zs (Zz 34 ?_)
     exact al_ cQ_ () (x_ rfl (by have p1:=eq_false hr1;have p2:=eq_false hr2;have p3:=eq_false hr3;have p4:=eq_true hr4;have p5:=eq_true hr5;simp only[wfB,p1,p2,p3,p4,p5,if_true,if_false,decide_true,decide_false,Bool.and_true,Bool.and_false,Bool.true_and,Bool.false_and,Bool.or_true,Bool.or_false,Bool.true_or,Bool.false_or,Bool.not_true,Bool.not_false,ne_eq,not_true_eq_false,not_false_eq_true,true_and,and_true,false_and,and_false,true_or,or_true,false_or,or_false,ite_true,ite_false,Bool.false_eq_true])) m_ zt
    refine Zz 2 ?_
    refine s_ 21 [4,5,6,7,8,9,10,11,12] zk zs (Zz 10 ?_)
    refine j_ 13 rfl zk (aJ_ rfl rfl (n_ (jB_ f.a f.r f.lo f.hi) rfl m_ zt rfl fun _=>Zz 3 ?_))
    refine s_ 17 [14,15,16] zk zs (bK_ rfl rfl rfl (aH_ (p:=f) (q:=(T_ f.a f.r f.lo f.hi)) rfl rfl) rfl fun r6 hr6=>Zz 3 ?_)
    cases r6
    ·replace hr6:=zdf hr6
     refine s_ 0 [17,18,19,20,21,22,23,24,25,26,27,28,29,30,31,32,33] zk zs (Zz 21 ?_)
     exact al_ cQ_ () (x_ rfl (by have p1:=eq_false hr1;have p2:=eq_false hr2;have p3:=eq_false hr3;have p4:=eq_true hr4;have p5:=eq_false hr5;have p6:=eq_false hr6;simp only[wfB,p1,p2,p3,p4,p5,p6,if_true,if_false,decide_true,decide_false,Bool.and_true,Bool.and_false,Bool.true_and,Bool.false_and,Bool.or_true,Bool.or_false,Bool.true_or,Bool.false_or,Bool.not_true,Bool.not_false,ne_eq,not_true_eq_false,not_false_eq_true,true_and,and_true,false_and,and_false,true_or,or_true,false_or,or_false,ite_true,ite_false,Bool.false_eq_true])) m_ zt
    replace hr6:=zdt hr6
    refine s_ 12 [17,18,19,20,21] zk zs (Zi 2 (fun hr7=>?_) fun hr7=>?_)
    ·refine Zz 3 ?_
     refine s_ 0 [22,23,24,25,26,27,28,29,30,31,32,33] zk zs (Zz 16 ?_)
     exact al_ cQ_ () (x_ rfl (by have p1:=eq_false hr1;have p2:=eq_false hr2;have p3:=eq_false hr3;have p4:=eq_true hr4;have p5:=eq_false hr5;have p6:=eq_true hr6;have p7:=eq_false hr7;simp only[wfB,p1,p2,p3,p4,p5,p6,p7,if_true,if_false,decide_true,decide_false,Bool.and_true,Bool.and_false,Bool.true_and,Bool.false_and,Bool.or_true,Bool.or_false,Bool.true_or,Bool.false_or,Bool.not_true,Bool.not_false,ne_eq,not_true_eq_false,not_false_eq_true,true_and,and_true,false_and,and_false,true_or,or_true,false_or,or_false,ite_true,ite_false,Bool.false_eq_true])) m_ zt
    refine Zz 3 ?_
    refine s_ 5 [22,23,24,25,26,27,28] zk zs (Zi 4 (fun hr8=>?_) fun hr8=>?_)
    ·refine Zz 3 ?_
     refine s_ 0 [29,30,31,32,33] zk zs (Zz 9 ?_)
     exact al_ cQ_ () (x_ rfl (by have p1:=eq_false hr1;have p2:=eq_false hr2;have p3:=eq_false hr3;have p4:=eq_true hr4;have p5:=eq_false hr5;have p6:=eq_true hr6;have p7:=eq_true hr7;have p8:=eq_false hr8;simp only[wfB,p1,p2,p3,p4,p5,p6,p7,p8,if_true,if_false,decide_true,decide_false,Bool.and_true,Bool.and_false,Bool.true_and,Bool.false_and,Bool.or_true,Bool.or_false,Bool.true_or,Bool.false_or,Bool.not_true,Bool.not_false,ne_eq,not_true_eq_false,not_false_eq_true,true_and,and_true,false_and,and_false,true_or,or_true,false_or,or_false,ite_true,ite_false,Bool.false_eq_true])) m_ zt
    refine Zz 3 ?_
    refine s_ 0 [29,30,31,32,33] zk zs (Zz 2 ?_)
    refine bK_ rfl rfl rfl (ff_ rfl rfl) rfl fun r9 hr9=>Zz 6 ?_
    exact al_ cQ_ () (x_ rfl (by have p1:=eq_false hr1;have p2:=eq_false hr2;have p3:=eq_false hr3;have p4:=eq_true hr4;have p5:=eq_false hr5;have p6:=eq_true hr6;have p7:=eq_true hr7;have p8:=eq_true hr8;rw[← hr9];simp only[wfB,p1,p2,p3,p4,p5,p6,p7,p8,if_true,if_false,decide_true,decide_false,Bool.and_true,Bool.and_false,Bool.true_and,Bool.false_and,Bool.or_true,Bool.or_false,Bool.true_or,Bool.false_or,Bool.not_true,Bool.not_false,ne_eq,not_true_eq_false,not_false_eq_true,true_and,and_true,false_and,and_false,true_or,or_true,false_or,or_false,ite_true,ite_false,Bool.false_eq_true])) m_ zt
   refine Zz 6 ?_
   refine s_ 16 [0,1,2,3] zk zs (Zi 2 (fun hr10=>?_) fun hr10=>?_)
   ·refine Zz 2 ?_
    refine s_ 0 [4,5,6,7,8,9,10,11,12,13,14,15,16,17,18,19] zk zs (Zz 20 ?_)
    exact al_ cQ_ () (x_ rfl (by have p1:=eq_false hr1;have p2:=eq_false hr2;have p3:=eq_true hr3;have p4:=eq_true hr10;simp only[wfB,p1,p2,p3,p4,if_true,if_false,decide_true,decide_false,Bool.and_true,Bool.and_false,Bool.true_and,Bool.false_and,Bool.or_true,Bool.or_false,Bool.true_or,Bool.false_or,Bool.not_true,Bool.not_false,ne_eq,not_true_eq_false,not_false_eq_true,true_and,and_true,false_and,and_false,true_or,or_true,false_or,or_false,ite_true,ite_false,Bool.false_eq_true])) m_ zt
   refine Zz 2 ?_
   refine s_ 11 [4,5,6,7,8] zk zs (Zi 2 (fun hr11=>?_) fun hr11=>?_)
   ·refine Zz 3 ?_
    refine s_ 0 [9,10,11,12,13,14,15,16,17,18,19] zk zs (Zz 15 ?_)
    exact al_ cQ_ () (x_ rfl (by have p1:=eq_false hr1;have p2:=eq_false hr2;have p3:=eq_true hr3;have p4:=eq_false hr10;have p5:=eq_true hr11;simp only[wfB,p1,p2,p3,p4,p5,if_true,if_false,decide_true,decide_false,Bool.and_true,Bool.and_false,Bool.true_and,Bool.false_and,Bool.or_true,Bool.or_false,Bool.true_or,Bool.false_or,Bool.not_true,Bool.not_false,ne_eq,not_true_eq_false,not_false_eq_true,true_and,and_true,false_and,and_false,true_or,or_true,false_or,or_false,ite_true,ite_false,Bool.false_eq_true])) m_ zt
   refine Zz 3 ?_
   refine s_ 4 [9,10,11,12,13,14,15] zk zs (Zz 8 ?_)
   refine j_ 16 rfl zk (aJ_ rfl rfl (n_ (dD_ f.a f.r f.b) rfl m_ zt rfl fun _=>Zz 3 ?_))
   refine s_ 0 [17,18,19] zk zs (bK_ rfl rfl rfl (aH_ (p:=f) (q:=(I_ f.a f.r f.b)) rfl rfl) rfl fun r12 hr12=>Zz 6 ?_)
   exact al_ cQ_ () (x_ rfl (by have p1:=eq_false hr1;have p2:=eq_false hr2;have p3:=eq_true hr3;have p4:=eq_false hr10;have p5:=eq_false hr11;rw[← hr12];simp only[wfB,p1,p2,p3,p4,p5,if_true,if_false,decide_true,decide_false,Bool.and_true,Bool.and_false,Bool.true_and,Bool.false_and,Bool.or_true,Bool.or_false,Bool.true_or,Bool.false_or,Bool.not_true,Bool.not_false,ne_eq,not_true_eq_false,not_false_eq_true,true_and,and_true,false_and,and_false,true_or,or_true,false_or,or_false,ite_true,ite_false,Bool.false_eq_true])) m_ zt
  refine Zz 6 ?_
  refine s_ 9 [0,1,2,3] zk zs (Zi 2 (fun hr13=>?_) fun hr13=>?_)
  ·refine Zz 2 ?_
   refine s_ 0 [4,5,6,7,8,9,10,11,12] zk zs (Zz 13 ?_)
   exact al_ cQ_ () (x_ rfl (by have p1:=eq_false hr1;have p2:=eq_true hr2;have p3:=eq_true hr13;simp only[wfB,p1,p2,p3,if_true,if_false,decide_true,decide_false,Bool.and_true,Bool.and_false,Bool.true_and,Bool.false_and,Bool.or_true,Bool.or_false,Bool.true_or,Bool.false_or,Bool.not_true,Bool.not_false,ne_eq,not_true_eq_false,not_false_eq_true,true_and,and_true,false_and,and_false,true_or,or_true,false_or,or_false,ite_true,ite_false,Bool.false_eq_true])) m_ zt
  refine Zz 2 ?_
  refine s_ 4 [4,5,6,7,8] zk zs (Zz 6 ?_)
  refine j_ 9 rfl zk (aJ_ rfl rfl (n_ (cZ_ f.a f.b) rfl m_ zt rfl fun _=>Zz 3 ?_))
  refine s_ 0 [10,11,12] zk zs (bK_ rfl rfl rfl (aH_ (p:=f) (q:=(C_ f.a f.b)) rfl rfl) rfl fun r14 hr14=>Zz 6 ?_)
  exact al_ cQ_ () (x_ rfl (by have p1:=eq_false hr1;have p2:=eq_true hr2;have p3:=eq_false hr13;rw[← hr14];simp only[wfB,p1,p2,p3,if_true,if_false,decide_true,decide_false,Bool.and_true,Bool.and_false,Bool.true_and,Bool.false_and,Bool.or_true,Bool.or_false,Bool.true_or,Bool.false_or,Bool.not_true,Bool.not_false,ne_eq,not_true_eq_false,not_false_eq_true,true_and,and_true,false_and,and_false,true_or,or_true,false_or,or_false,ite_true,ite_false,Bool.false_eq_true])) m_ zt
 refine Zz 9 ?_
 exact al_ cQ_ () (x_ rfl (by have p1:=eq_true hr1;simp only[wfB,p1,if_true,if_false,decide_true,decide_false,Bool.and_true,Bool.and_false,Bool.true_and,Bool.false_and,Bool.or_true,Bool.or_false,Bool.true_or,Bool.false_or,Bool.not_true,Bool.not_false,ne_eq,not_true_eq_false,not_false_eq_true,true_and,and_true,false_and,and_false,true_or,or_true,false_or,or_false,ite_true,ite_false,Bool.false_eq_true])) m_ zt
theorem lV_ (l:List Stp) (ad:Option Addr) (cap:Nat) (hl:l.length≤1000000) (hfl:∀ s∈l,s.frm.length≤1000000):Tri Tryz.prog 53 #[.agg #[.slice ad (List.length l) cap]] [] [af_ ad (List.flatMap Stp.cells l),ax_ l] (fun y:{e:Int // (e=0∨e=1)∧(e=0→en_ l)∧(en_ l→e=0)}=>.int .i64 y.1) (fun _=>[]) (fun _=>[]):=by
 refine w_ Tryz.func53 rfl rfl Tryz.ntmps53 rfl fun v0=>?_
 refine Zz 2 ?_
 refine as_ rfl rfl fun b1=>Zi 9 (fun hr1=>?_) fun hr1=>?_
 ·refine Zz 15 ?_
  refine Q_ (ι:={y:Nat // y≤List.length l∧jc_ l y (fun n s=>∀ q∈s.frm,0≤q∧q<(n:Int))}) (fun y=>[(2,.int .i64 0),(12,.slice ad (List.length l) cap),(13,.int .i64 (List.length l:Int)),(14,.int .i64 (y.1:Int))]) (fun y=>([])) (fun y=>[af_ ad (List.flatMap Stp.cells l),ax_ l]) (fun y=>List.length l - y.1) ⟨(0:Nat),by simp,jc_.zero⟩ zl m_ zh ?_
  rintro ⟨i,hi_i,hu_i⟩
  dsimp only at hi_i hu_i ⊢
  refine Zi 2 (fun hr2=>?_) fun hr2=>?_
  ·refine Zz 12 ?_
   exact al_ Tryz.results53 ⟨0,⟨.inl rfl,fun _=>⟨fun h=>hr1 (by rw[h];rfl),fun i s hs=>hu_i.done (by omega) i s hs⟩,fun _=>rfl⟩⟩ rfl m_ zt
  obtain⟨hlx1,x1,hx1,hmx1⟩:=zge (show i<List.length l by omega)
  refine Zz 13 ?_
  refine J_ bn_ rfl fun b2=>Zz 1 ?_
  refine z_ 0 ap_ rfl rfl rfl rfl rfl rfl (Zz 11 ?_)
  have hlx1f:=hfl x1 hmx1
  refine Q_ (ι:={y:Nat // y≤List.length x1.frm∧jc_ x1.frm y (fun _ q=>0≤q∧q<(i:Int))}) (fun y=>[(2,.int .i64 0),(12,.slice ad (List.length l) cap),(13,.int .i64 (List.length l:Int)),(14,.int .i64 (i:Int)),(3,.int .i64 (i:Int)),(20,.slice x1.ad (List.length x1.frm) x1.cap),(21,.int .i64 (List.length x1.frm:Int)),(22,.int .i64 (y.1:Int))]) (fun y=>([])) (fun y=>[af_ ad (List.flatMap Stp.cells l),ax_ l]) (fun y=>List.length x1.frm - y.1) ⟨(0:Nat),by simp,jc_.zero⟩ zl m_ zh ?_
  rintro ⟨j,hi_j,hu_j⟩
  dsimp only at hi_j hu_j ⊢
  refine Zi 2 (fun hr3=>?_) fun hr3=>?_
  ·refine Zz 11 ?_
   exact y_ ⟨i+1,hlx1,hu_i.step hx1 (hu_j.all (by omega))⟩ (by dsimp only;omega) zl m_ zh
  obtain⟨hlx2,x2,hx2,hmx2⟩:=zge (show j<List.length x1.frm by omega)
  refine Zz 10 ?_
  refine i_ (X_ f_ o_ rfl rfl (fun v _ h=>G_ (n:=1) D_ (by decide) (by exact (h.2.1 x1 hmx1)) hx2) (by omega) (by first|omega|(simp;done))) rfl ?_
  refine i_ (at_ (ad:=x1.ad) O_ rfl (fun v _ h=>by exact (h.2.1 x1 hmx1)) (t_ D_ hx2 0 _ rfl)) rfl (Zi 6 (fun hr4=>?_) fun hr4=>?_)
  ·refine Zi 6 (fun hr5=>?_) fun hr5=>?_
   ·refine Zz 11 ?_
    exact y_ ⟨j+1,hlx2,hu_j.step hx2 (by omega)⟩ (by dsimp only;omega) zl m_ zh
   refine Zz 10 ?_
   exact al_ Tryz.results53 ⟨1,⟨.inr rfl,(fun h=>by cases h),fun h=>(by have q:=h.2 i x1 hx1 x2 hmx2;omega)⟩⟩ rfl m_ zt
  refine Zz 14 ?_
  exact al_ Tryz.results53 ⟨1,⟨.inr rfl,(fun h=>by cases h),fun h=>(by have q:=h.2 i x1 hx1 x2 hmx2;omega)⟩⟩ rfl m_ zt
 refine Zz 9 ?_
 exact al_ Tryz.results53 ⟨1,⟨.inr rfl,(fun h=>by cases h),fun h=>absurd (List.eq_nil_of_length_eq_zero (by omega)) h.1⟩⟩ rfl m_ zt
end Go.Proofs.YtkeanlfhghlgiaaGreatDoor
namespace Go.Proofs.YtkeanlfhghlgiaaGreatDoor
open Go Go.Sx Go.Proofs
attribute [local irreducible] Code.wp wpList wpAnyH
open Go.Vs
theorem gZ_:jb_ Tryz.prog 29 [(0,1)] [.slice none 0 0]:=⟨_,cp_,cH_,fun w=>by simp[ei_]⟩
theorem KnI.recR {l:List Stp} {i:Nat} {ks:List Fc} {vs:List Int} {s:Stp} {m:Int} (h:KnI l i ks vs) (hl:vs.length=ks.length) (hs:l[i]? = some s) (hm:RecR ks vs s.fact (i:Int) m):KnI l (i+1) (if s.fact∈ks then ks else ks++[s.fact]) (if s.fact∈ks then vs else vs++[(i:Int)])∧m=(bd_ l s:Int):=by
 by_cases hk:s.fact∈ks
 ·rw[if_pos hk,if_pos hk];exact h.old hs hk (hm.1 hk)
 rw[if_neg hk,if_neg hk]
 obtain⟨h1,h2⟩:=h.new hl hs hk
 exact⟨h1,(hm.2 hk).trans h2⟩
end Go.Proofs.YtkeanlfhghlgiaaGreatDoor
namespace Go.Proofs.YtkeanlfhghlgiaaGreatDoor
open Go Go.Sx Go.Proofs
attribute [local irreducible] Code.wp wpList wpAnyH
open Go.Vs
theorem pJ_ (L:List Int) (sv:Value) (Hr:Hp) (hr:zR 3 1 N_ sv L Hr) (hl:L.length≤1000000000):Tri Tryz.prog 56 #[sv] Hr [] (fun _:{H:Hp // zR 3 1 N_ sv L.reverse H}=>.tuple #[]) (fun y=>y.1) (fun _=>[]):=by
 refine w_ Tryz.func56 rfl rfl Tryz.ntmps56 rfl fun v0=>?_
 refine Zz 3 ?_
 refine i_ (ch_ hr f_ rfl) rfl (Zz 6 ?_)
 refine dC_ [(0,sv),(2,.int .i64 0),(3,.int .i64 ((List.length L:Int) - 1 - ((0:Nat):Int)))] ⟨rfl,rfl,(cq_ rfl (by omega)),trivial⟩ ?_
 refine Q_ (ι:={y:Nat×List Int×Value×Hp // RevI L y.2.1 y.1∧y.2.2.1=sv∧zR 3 1 N_ y.2.2.1 y.2.1 y.2.2.2}) (fun y=>[(0,y.1.2.2.1),(2,.int .i64 (y.1.1:Int)),(3,.int .i64 ((List.length L:Int) - 1 - (y.1.1:Int)))]) (fun y=>(y.1.2.2.2)) (fun y=>[]) (fun y=>List.length L - y.1.1) ⟨((0:Nat),L,sv,Hr),RevI.zero L,rfl,hr⟩ zl ay_ zt ?_
 rintro ⟨⟨k,M,sv_W,H_W⟩,hR,hsv,hr_W⟩
 dsimp only at hR hsv hr_W ⊢
 refine Zi 5 (fun hr1=>?_) fun hr1=>?_
 ·refine Zz 5 ?_
  have eM:=hR.done hr1
  subst eM
  rw[hsv]at hr_W
  exact end0 Tryz.results56 ⟨H_W,hr_W⟩ rfl ay_ zt
 have htest:=hr1
 have hML:=hR.len
 have hla1:(Int.toNat ((List.length L:Int) - 1 - (k:Int)))<List.length M:=by omega
 obtain⟨a1,ha1⟩:∃ e0,M[(Int.toNat ((List.length L:Int) - 1 - (k:Int)))]? = some e0:=⟨_,List.getElem?_eq_getElem hla1⟩
 have hma1:a1∈M:=List.mem_of_getElem? ha1
 have hlb1:k<List.length M:=by omega
 obtain⟨b1,hb1⟩:∃ e0,M[k]? = some e0:=⟨_,List.getElem?_eq_getElem hlb1⟩
 have hmb1:b1∈M:=List.mem_of_getElem? hb1
 refine Zz 7 ?_
 refine ae_ ([]) zk ?_
 refine s_ 6 [0,1,2,3,4,5,6,8,9,10] zk zs (Zz 6 ?_)
 refine R_ rfl (ah_ hr_W f_ o_ rfl rfl (by omega) (by omega)) rfl (Zz 2 ?_)
 refine R_ rfl (ah_ hr_W f_ o_ rfl rfl (by omega) (by omega)) rfl (cJ_ ?_)
 refine bW_ 7 11 rfl rfl zk ?_ ?_
 ·refine i_ (av_ hr_W ay_ O_ rfl (t_ D_ ha1 0 _ rfl)) rfl (Zz 3 ?_)
  refine j_ 11 rfl zk (i_ (av_ hr_W ay_ O_ rfl (t_ D_ hb1 0 _ rfl)) rfl (Zz 3 ?_))
  refine s_ 3 [12] zk zs (R_ rfl (ah_ hr_W f_ o_ rfl rfl (by omega) (by omega)) rfl (cJ_ (j_ 13 rfl zk (bQ_ (k:=(k:Int).toNat*1+0) hr_W ay_ o_ rfl rfl (by omega) rfl rfl fun Hr1 hr1=>?_))))
  have hs1:=(cU_ N_ 1 D_ M k 0 b1 a1 (.int .i64 a1) hb1 (by decide) rfl).trans (congrArg _ (rfl))
  have hq1:aE_ 3 1 sv_W (List.length (List.set M k a1)) (List.flatMap N_ (List.set M k a1)) Hr1:=by rw[← hs1,show List.length (List.set M k a1)=List.length M from (List.length_set ..)];exact hr1
  refine u_ dS_ (Zz 3 ?_)
  refine j_ 14 rfl zk ?_
  have hb2:(List.set M k a1)[(Int.toNat ((List.length L:Int) - 1 - (k:Int)))]? = some a1:=by rw[List.getElem?_set_ne (by omega)];exact ha1
  have hlb2:(Int.toNat ((List.length L:Int) - 1 - (k:Int)))<List.length (List.set M k a1):=by rw[List.length_set];omega
  refine i_ (ah_ hq1 f_ o_ rfl rfl (by omega) (by omega)) rfl (Zz 3 ?_)
  refine j_ 15 rfl zk (bQ_ (k:=((Int.toNat ((List.length L:Int) - 1 - (k:Int))):Int).toNat*1+0) hq1 ay_ o_ rfl rfl (by omega) rfl rfl fun Hr2 hr2=>?_)
  have hs2:=(cU_ N_ 1 D_ (List.set M k a1) (Int.toNat ((List.length L:Int) - 1 - (k:Int))) 0 a1 b1 (.int .i64 b1) hb2 (by decide) rfl).trans (congrArg _ (rfl))
  have hq2:aE_ 3 1 sv_W (List.length (List.set (List.set M k a1) (Int.toNat ((List.length L:Int) - 1 - (k:Int))) b1)) (List.flatMap N_ (List.set (List.set M k a1) (Int.toNat ((List.length L:Int) - 1 - (k:Int))) b1)) Hr2:=by rw[← hs2,show List.length (List.set (List.set M k a1) (Int.toNat ((List.length L:Int) - 1 - (k:Int))) b1)=List.length (List.set M k a1) from (List.length_set ..)];exact hr2
  refine u_ dS_ (Zz 14 ?_)
  exact y_ ⟨(k+1,(List.set (List.set M k a1) (Int.toNat ((List.length L:Int) - 1 - (k:Int))) b1),sv_W,Hr2),(by have q:=hR.step htest (show M[List.length L - 1 - k]? = some a1 from by rw[show List.length L - 1 - k=(Int.toNat ((List.length L:Int) - 1 - (k:Int))) by omega];exact ha1) hb1;rw[show List.length L - 1 - k=(Int.toNat ((List.length L:Int) - 1 - (k:Int))) by omega]at q;exact q),hsv,hq2⟩ (by dsimp only;omega) ⟨rfl,rfl,(cq_ rfl (by dsimp only;omega)),trivial⟩ ay_ zt
 refine i_ (av_ hr_W ay_ O_ rfl (t_ D_ hb1 0 _ rfl)) rfl (Zz 3 ?_)
 refine j_ 7 rfl zk (i_ (av_ hr_W ay_ O_ rfl (t_ D_ ha1 0 _ rfl)) rfl (Zz 3 ?_))
 refine s_ 3 [12] zk zs (R_ rfl (ah_ hr_W f_ o_ rfl rfl (by omega) (by omega)) rfl (cJ_ (j_ 13 rfl zk (bQ_ (k:=(k:Int).toNat*1+0) hr_W ay_ o_ rfl rfl (by omega) rfl rfl fun Hr3 hr3=>?_))))
 have hs3:=(cU_ N_ 1 D_ M k 0 b1 a1 (.int .i64 a1) hb1 (by decide) rfl).trans (congrArg _ (rfl))
 have hq3:aE_ 3 1 sv_W (List.length (List.set M k a1)) (List.flatMap N_ (List.set M k a1)) Hr3:=by rw[← hs3,show List.length (List.set M k a1)=List.length M from (List.length_set ..)];exact hr3
 refine u_ dS_ (Zz 3 ?_)
 refine j_ 14 rfl zk ?_
 have hb2:(List.set M k a1)[(Int.toNat ((List.length L:Int) - 1 - (k:Int)))]? = some a1:=by rw[List.getElem?_set_ne (by omega)];exact ha1
 have hlb2:(Int.toNat ((List.length L:Int) - 1 - (k:Int)))<List.length (List.set M k a1):=by rw[List.length_set];omega
 refine i_ (ah_ hq3 f_ o_ rfl rfl (by omega) (by omega)) rfl (Zz 3 ?_)
 refine j_ 15 rfl zk (bQ_ (k:=((Int.toNat ((List.length L:Int) - 1 - (k:Int))):Int).toNat*1+0) hq3 ay_ o_ rfl rfl (by omega) rfl rfl fun Hr4 hr4=>?_)
 have hs4:=(cU_ N_ 1 D_ (List.set M k a1) (Int.toNat ((List.length L:Int) - 1 - (k:Int))) 0 a1 b1 (.int .i64 b1) hb2 (by decide) rfl).trans (congrArg _ (rfl))
 have hq4:aE_ 3 1 sv_W (List.length (List.set (List.set M k a1) (Int.toNat ((List.length L:Int) - 1 - (k:Int))) b1)) (List.flatMap N_ (List.set (List.set M k a1) (Int.toNat ((List.length L:Int) - 1 - (k:Int))) b1)) Hr4:=by rw[← hs4,show List.length (List.set (List.set M k a1) (Int.toNat ((List.length L:Int) - 1 - (k:Int))) b1)=List.length (List.set M k a1) from (List.length_set ..)];exact hr4
 refine u_ dS_ (Zz 14 ?_)
 exact y_ ⟨(k+1,(List.set (List.set M k a1) (Int.toNat ((List.length L:Int) - 1 - (k:Int))) b1),sv_W,Hr4),(by have q:=hR.step htest (show M[List.length L - 1 - k]? = some a1 from by rw[show List.length L - 1 - k=(Int.toNat ((List.length L:Int) - 1 - (k:Int))) by omega];exact ha1) hb1;rw[show List.length L - 1 - k=(Int.toNat ((List.length L:Int) - 1 - (k:Int))) by omega]at q;exact q),hsv,hq4⟩ (by dsimp only;omega) ⟨rfl,rfl,(cq_ rfl (by dsimp only;omega)),trivial⟩ ay_ zt
theorem pW_ {σ:Type} {l:Nat} {Gj:σ→Hp} {lst:σ→List Int} (hY:∀ s x,(lst s).length<1000000000000→sK_ Tryz.prog l (.int .i64 x) (Gj s) [] (fun _:{s':σ // lst s'=lst s++[x]}=>.bool true) (fun s'=>Gj s'.1) (fun _=>[])) (s0:σ) (hs0:lst s0=[]) (us ts:List Stp) (uad:Option Addr) (ucap bx:Nat) (HF:Hp) (hne:us≠[]) (hord:∀ (i:Nat) s,us[i]? = some s→∀ q∈s.frm,0≤q∧q<(i:Int)) (htk:∀ (n:Nat) s,us[n]? = some s→ts[n]? = some s) (ho:jz_ 3 ts HF) (hul:us.length≤1000000) (hfl:∀ s∈us,s.frm.length≤1000000):Tri Tryz.prog 107 #[.func (.yield l) #[] #[],zp_ bx 0] ((bx,.cells #[.slice uad (List.length us) ucap] 27 (0,0))::(HF++Gj s0)) [af_ uad (List.flatMap Stp.cells us)] (fun _:{s':σ // NdL us (lst s')}=>.tuple #[]) (fun s'=>(bx,.cells #[.slice uad (List.length us) ucap] 27 (0,0))::(HF++Gj s'.1)) (fun _=>[]):=by
 refine w_ Tryz.func107 rfl rfl Tryz.ntmps107 rfl fun v0=>?_
 refine Zz 4 ?_
 refine dn_ (n:=List.length us) (by':=1) Tryz.underlying99 (z:=(.bool false)) zk rfl (by decide) rfl rfl (by omega) (by simp only[maxLen];omega) rfl fun svB HrB hrB=>?_
 have hqB:aE_ 4 1 svB (List.length (List.replicate (List.length us) false)) (List.flatMap eC_ (List.replicate (List.length us) false)) HrB:=by rw[List.length_replicate,← ev_ eC_];exact hrB
 refine Zz 3 ?_
 refine u_ (ak_ (e_ d_)) (Zz 6 ?_)
 have hup:0<List.length us:=List.length_pos_iff.2 hne
 have hlw0:(Int.toNat ((List.length us:Int) - 1))<List.length (List.replicate (List.length us) false):=by rw[List.length_replicate];omega
 obtain⟨w0,hw0⟩:∃ e0,(List.replicate (List.length us) false)[(Int.toNat ((List.length us:Int) - 1))]? = some e0:=⟨_,List.getElem?_eq_getElem hlw0⟩
 have hmw0:w0∈(List.replicate (List.length us) false):=List.mem_of_getElem? hw0
 refine i_ (ah_ hqB dY_ dz_ rfl rfl (by omega) (by omega)) rfl (bQ_ (k:=((Int.toNat ((List.length us:Int) - 1)):Int).toNat*1+0) hqB zp dz_ rfl rfl (by omega) rfl rfl fun Hr1 hr1=>?_)
 have hs1:=(cU_ eC_ 1 eL_ (List.replicate (List.length us) false) (Int.toNat ((List.length us:Int) - 1)) 0 w0 true (.bool true) hw0 (by decide) rfl).trans (congrArg _ (rfl))
 have hq1:aE_ 4 1 svB (List.length (List.set (List.replicate (List.length us) false) (Int.toNat ((List.length us:Int) - 1)) true)) (List.flatMap eC_ (List.set (List.replicate (List.length us) false) (Int.toNat ((List.length us:Int) - 1)) true)) Hr1:=by rw[← hs1,show List.length (List.set (List.replicate (List.length us) false) (Int.toNat ((List.length us:Int) - 1)) true)=List.length (List.replicate (List.length us) false) from (List.length_set ..)];exact hr1
 refine Zz 2 ?_
 refine u_ (ak_ (e_ d_)) (Zz 9 ?_)
 have hs9:List.set (List.replicate (List.length us) false) (Int.toNat ((List.length us:Int) - 1)) true=(List.replicate us.length false).set (us.length - 1) true:=by rw[show (Int.toNat ((List.length us:Int) - 1))=us.length - 1 by omega]
 refine Q_ (ι:={y:Int×List Bool×σ×Value×Hp // (-1≤y.1∧y.1<(List.length us:Int))∧MkI us y.2.1 (y.1+1).toNat (lst y.2.2.1)∧zR 4 1 eC_ y.2.2.2.1 y.2.1 y.2.2.2.2}) (fun y=>[(0,.func (.yield l) #[] #[]),(1,zp_ bx 0),(3,y.1.2.2.2.1),(4,.int .i64 y.1.1)]) (fun y=>((bx,.cells #[.slice uad (List.length us) ucap] 27 (0,0))::(HF++((Gj y.1.2.2.1)++y.1.2.2.2.2)))) (fun y=>[af_ uad (List.flatMap Stp.cells us)]) (fun y=>(y.1.1+1).toNat) ⟨(((List.length us:Int) - 1),(List.set (List.replicate (List.length us) false) (Int.toNat ((List.length us:Int) - 1)) true),s0,svB,Hr1),by omega,(by rw[show (((List.length us:Int) - 1)+1).toNat=us.length by omega,hs0,hs9];exact MkI.start hord hne),hq1⟩ zl zp zh ?_
 rintro ⟨⟨z,bs,s,sv_B,H_B⟩,hz,hM,hr_B⟩
 dsimp only at hz hM hr_B ⊢
 refine Zi 4 (fun hr1=>?_) fun hr1=>?_
 ·refine Zz 5 ?_
  have q:=hM;rw[show (z+1).toNat=0 by omega]at q
  exact end0 Tryz.results107 ⟨s,q.done⟩ rfl zp zt
 obtain⟨n,rfl⟩:∃ n:Nat,z=n:=⟨z.toNat,by omega⟩
 have hM2:MkI us bs (n+1) (lst s):=by have q:=hM;rwa [show ((n:Int)+1).toNat=n+1 by omega]at q
 have hnl:n<List.length us:=by omega
 have hbl:=hM2.len
 have hls1:n<List.length us:=hnl
 obtain⟨s1,hs1⟩:∃ e0,us[n]? = some e0:=⟨_,List.getElem?_eq_getElem hls1⟩
 have hms1:s1∈us:=List.mem_of_getElem? hs1
 have hlw1:n<List.length bs:=by omega
 obtain⟨w1,hw1⟩:∃ e0,bs[n]? = some e0:=⟨_,List.getElem?_eq_getElem hlw1⟩
 have hmw1:w1∈bs:=List.mem_of_getElem? hw1
 refine Zz 12 ?_
 refine i_ (ah_ hr_B dY_ dz_ rfl rfl (by omega) (by omega)) rfl (i_ (av_ hr_B zp Tryz.isAgg4 rfl (t_ eL_ hw1 0 _ rfl)) rfl (i_ (bt_ rfl) rfl (Zz 2 ?_)))
 cases w1
 ·refine Zz 9 ?_
  exact y_ ⟨(((n:Int) - 1),bs,s,sv_B,H_B),by omega,(by rw[show ((n:Int) - 1+1).toNat=n by omega];exact hM2.miss hord hw1),hr_B⟩ (by dsimp only;omega) zl zp zh
 refine Zz 5 ?_
 obtain⟨Hs9,Hr9,hp1,hp2,_⟩:=ho.get (htk n s1 hs1)
 refine u_ (List.Perm.trans (c_ l_) (hp1.append_right _)) (u_ (List.Perm.of_eq (List.append_assoc ..)) (u_ (ak_ (e_ (e_ d_))) (Zz 6 ?_)))
 refine i_ (ch_ hp2 f_ rfl) rfl (Zz 4 ?_)
 refine Q_ (ι:={y:Nat×List Bool×Value×Hp // y.1≤List.length s1.frm∧y.2.1.length=bs.length∧(∀ q:Nat,y.2.1[q]? = some true↔bs[q]? = some true∨(q:Int)∈s1.frm.take y.1)∧zR 4 1 eC_ y.2.2.1 y.2.1 y.2.2.2}) (fun y=>[(0,.func (.yield l) #[] #[]),(1,zp_ bx 0),(3,y.1.2.2.1),(4,.int .i64 (n:Int)),(31,(.slice s1.ad (List.length s1.frm) s1.cap)),(32,.int .i64 (List.length s1.frm:Int)),(33,.int .i64 (y.1.1:Int))]) (fun y=>((bx,.cells #[.slice uad (List.length us) ucap] 27 (0,0))::(Hs9++(Hr9++((Gj s)++y.1.2.2.2))))) (fun y=>[af_ uad (List.flatMap Stp.cells us)]) (fun y=>List.length s1.frm - y.1.1) ⟨((0:Nat),bs,sv_B,H_B),by simp,rfl,by simp,hr_B⟩ zl zp zh ?_
 rintro ⟨⟨j,cs,sv_B,H_B⟩,hj,hcl,hcq,hr_B⟩
 dsimp only at hj hcl hcq hr_B ⊢
 have hfj:=hfl s1 hms1
 refine Zi 2 (fun hr2=>?_) fun hr2=>?_
 ·refine Zz 7 ?_
  have e9:List.take j s1.frm=Stp.frm s1:=List.take_of_length_le (by omega)
  have hhit:MkI us cs n (lst s++[(n:Int)]):=hM2.hit hord hw1 hs1 hcl (fun q=>by have q2:=hcq q;rw[e9]at q2;exact q2)
  refine u_ (List.Perm.trans (p_ (c_ l_) (c_ l_)) (hp1.symm.append_right _)) (u_ (ak_ (e_ d_)) ?_)
  refine qW_ (ι:={s':σ // lst s'=lst s++[(n:Int)]}) (fun _=>[(0,.func (.yield l) #[] #[]),(1,zp_ bx 0),(3,sv_B),(4,.int .i64 (n:Int)),(44,.bool false)]) (fun z=>((bx,.cells #[.slice uad (List.length us) ucap] 27 (0,0))::(HF++(H_B++(Gj z.1))))) (fun _=>[af_ uad (List.flatMap Stp.cells us)]) ?_ ?_
  ·refine hd_ ?_
   refine gh_ ko_ (az_ rfl) rfl rfl ?_
   refine gh_ ko_ (az_ rfl) rfl rfl ?_
   refine on_ (hY s (n:Int) (by have:=hM2.llen hord;omega)) rfl rfl (c_ (e_ l_)) zt rfl fun z=>?_
   refine gh_ ko_ (bt_ rfl) rfl rfl ?_
   refine kn_ ?_
   refine kG_ rfl ?_
   exact lE_ z zl zp zh
  rintro ⟨s',hs'⟩
  dsimp only
  refine Zz 10 ?_
  exact y_ ⟨(((n:Int) - 1),cs,s',sv_B,H_B),by omega,(by rw[show ((n:Int) - 1+1).toNat=n by omega,hs'];exact hhit),hr_B⟩ (by dsimp only;omega) zl zp zh
 obtain⟨hlx2,x2,hx2,hmx2⟩:=zge (show j<List.length s1.frm by omega)
 refine Zz 10 ?_
 refine i_ (ah_ hp2 f_ o_ rfl rfl (by omega) (by omega)) rfl (i_ (av_ hp2 zp O_ rfl (t_ D_ hx2 0 _ rfl)) rfl (Zz 6 ?_))
 have hx2b:=hord n s1 hs1 x2 hmx2
 have hlw2:(Int.toNat x2)<List.length cs:=by have:=hM2.len;omega
 obtain⟨w2,hw2⟩:∃ e0,cs[(Int.toNat x2)]? = some e0:=⟨_,List.getElem?_eq_getElem hlw2⟩
 have hmw2:w2∈cs:=List.mem_of_getElem? hw2
 refine i_ (ah_ hr_B dY_ dz_ rfl rfl (by omega) (by omega)) rfl (bQ_ (k:=((Int.toNat x2):Int).toNat*1+0) hr_B zp dz_ rfl rfl (by omega) rfl rfl fun Hr2 hr2=>?_)
 have hs2:=(cU_ eC_ 1 eL_ cs (Int.toNat x2) 0 w2 true (.bool true) hw2 (by decide) rfl).trans (congrArg _ (rfl))
 have hq2:aE_ 4 1 sv_B (List.length (List.set cs (Int.toNat x2) true)) (List.flatMap eC_ (List.set cs (Int.toNat x2) true)) Hr2:=by rw[← hs2,show List.length (List.set cs (Int.toNat x2) true)=List.length cs from (List.length_set ..)];exact hr2
 refine Zz 2 ?_
 refine u_ (ak_ (e_ d_)) (Zz 5 ?_)
 exact y_ ⟨(j+1,(List.set cs (Int.toNat x2) true),sv_B,Hr2),hlx2,by rw[List.length_set];exact hcl,or_ hcq hx2 hx2b.1 hlw2,hq2⟩ (by dsimp only;omega) zl zp zh
end Go.Proofs.YtkeanlfhghlgiaaGreatDoor
namespace Go.Proofs.YtkeanlfhghlgiaaGreatDoor
open Go Go.Sx Go.Proofs
attribute [local irreducible] Code.wp wpList wpAnyH
open Go.Vs
theorem rD_ {N:Nf} {v0:Vw} {H0:Hp} {fr:Fr} {k:Act→World→Prop} {T:TypeId} {tk:List Stp} {HO F H:Hp} {Γ:List Fct} (hH:H.Perm (HO++F)) (ho:jz_ T tk HO) (h:Ok N v0 H0 k fr F (ax_ tk::Γ)):Ok N v0 H0 k fr H Γ :=
 iA_ HO hH (gj_ (fun v _ hv=>by
   rw[eB_]at hv
   refine⟨ng_ ho fun p hp=>?_,hv.2⟩
   have:∀ (l:Hp),am_ (l.map fun p=>eu_ p.1 p.2) v→∀ p∈l,v.im p.1∧v.w.heap[p.1]? = some p.2:=by
     intro l
     induction l with
     | nil=>intro _ p hp;simp at hp
     | cons a l ih =>
       intro hl p hp
       rcases List.mem_cons.1 hp with rfl|hp
       · exact hl.1
       · exact ih hl.2 p hp
   exact this _ hv.1 p (by simpa using hp)) h)
theorem pf_as3 {H A B C G:Hp} {b c:Nat×Obj} (h:H.Perm ((b::c::(A++(B++C)))++G)):H.Perm ((b::c::A)++B++(C++G)):=by simpa [List.append_assoc] using h
theorem pf_D {H B F:Hp} {l D:Nat} {r:Loop} (h:H.Perm (B++(HLp l D r++F))):H.Perm ((D,.deferred (some []))::(B++((l,.loop r)::F))):=by
  refine h.trans ?_
  unfold HLp
  have:B++([(l,Obj.loop r),(D,.deferred (some []))]++F)=(B++[(l,Obj.loop r)])++((D,.deferred (some []))::F):=by simp
  rw[this]
  refine List.perm_middle.trans ?_
  simp
theorem rJ_ (us:List Stp) (uad:Option Addr) (ucap:Nat):Tri Tryz.prog 55 #[.slice uad (List.length us) ucap] [] [] (fun b:Nat=>.func (.func 107) #[] #[zp_ b 0]) (fun b=>[(b,.cells #[.slice uad (List.length us) ucap] 27 (0,0))]) (fun _=>[]):=by
  refine w_ Tryz.func55 rfl rfl Tryz.ntmps55 rfl fun v0=>?_
  refine Zz 2 ?_
  refine as_ rfl rfl fun b1=>Zz 5 ?_
  refine i_ (cD_ rfl rfl) rfl (Zz 4 ?_)
  exact al_ Tryz.results55 b1 rfl d_ zt
theorem tr_ {us:List Stp} {L:List Int} {n:Nat} (h:NdL us L) (hord:∀ (i:Nat) s,us[i]? = some s→∀ q∈s.frm,0≤q∧q<(i:Int)) (hn:us.length≤n):L.length≤n:=by
  have h1:L.Nodup:=h.dec.imp fun hab=>by omega
  have h2:∀ x∈L,x∈(List.range us.length).map Int.ofNat:=fun x hx=>by
    obtain⟨m,e,hd⟩:=h.nat x hx
    exact List.mem_map.2 ⟨m,List.mem_range.2 (lD_ hord hd),e.symm⟩
  have:=eT_ h1 h2
  simp at this;omega
theorem nY_ (l:List Stp) (ad:Option Addr) (cap:Nat) (hl:l.length≤1000000) (hfl:∀ s∈l,s.frm.length≤1000000):Tri Tryz.prog 21 #[.agg #[.slice ad (List.length l) cap]] [] [af_ ad (List.flatMap Stp.cells l),ax_ l] (fun y:{y:List Stp×Option Addr×Nat×Int // (en_ l→y.2.2.2=0∧gS_ l y.1∧y.1.length≤100000000∧y.1.length≤y.2.2.1∧y.2.2.1≤maxLen∧(y.2.1=none→y.2.2.1=0))∧(¬ en_ l→y.2.2.2=1∧y.1=[]∧y.2.1=none∧y.2.2.1=0)}=>.tuple #[.agg #[.slice y.1.2.1 y.1.1.length y.1.2.2.1],.int .i64 y.1.2.2.2]) (fun _=>[]) (fun y=>[af_ y.1.2.1 (List.flatMap Stp.cells y.1.1),ax_ y.1.1]):=by
 refine lZ_ Tryz.func21 rfl rfl Tryz.ntmps21 rfl fun v0=>?_
 refine Zz 2 ?_
 refine as_ rfl rfl fun b1=>J_ cp_ rfl fun b2=>Zz 7 ?_
 refine n_ (lV_ l ad cap hl hfl) rfl m_ zf rfl fun⟨ec,hec,hec1,hec2⟩=>?_
 dsimp only
 refine Zi 6 (fun hr1=>?_) fun hr1=>?_
 ·obtain⟨hne,hord⟩:=hec1 hr1
  refine Zz 7 ?_
  refine bR_ rfl fun b3=>Zz 8 ?_
  refine dn_ (n:=List.length l) (by':=8) fd_ (z:=(.int .i64 0)) zk rfl (by decide) rfl rfl (by omega) (by simp only[maxLen];omega) rfl fun svF HrF hrF=>?_
  have hqF:aE_ 3 1 svF (List.length (fsI l 0)) (List.flatMap N_ (fsI l 0)) HrF:=by rw[sl_];rw[List.length_replicate,← ev_ N_];exact hrF
  refine Zz 3 ?_
  refine u_ (q_ (e_ d_) (q_ (e_ d_) (ak_ V_))) (Zz 5 ?_)
  refine dn_ (n:=List.length l) (by':=112) Tryz.underlying27 (z:=(.agg #[.int .i64 0,.int .i64 0,str [],str [],str [],.int .i64 0,.int .i64 0,.int .i64 0,.slice none 0 0])) zk rfl (by decide) rfl rfl (by omega) (by simp only[maxLen];omega) rfl fun svS HrS hrS=>?_
  have hqS:aE_ 48 9 svS (List.length (List.replicate (List.length l) Stp.zero)) (List.flatMap Stp.cells (List.replicate (List.length l) Stp.zero)) HrS:=by rw[List.length_replicate,← ev_ Stp.cells];exact hrS
  refine Zz 4 ?_
  refine u_ (q_ (e_ d_) (q_ (e_ d_) (ak_ (e_ d_)))) (Zz 9 ?_)
  refine u_ (H':=([]:Hp)++((b3,.map #[] 0)::((b2,.cells #[.slice none 0 0] 29 (0,0))::((b1,.cells #[.slice ad (List.length l) cap] 29 (0,0))::(HrS++HrF))))) (List.Perm.refl _) ?_
  refine Q_ (ι:={y:Nat×List Fc×List Int×Array MapEntry×Nat×List Stp×Hp×Value×Hp×Value×Hp // y.1≤List.length l∧IntE Fc.val y.2.2.2.1 y.2.1 y.2.2.1∧KnI l y.1 y.2.1 y.2.2.1∧TsI l y.2.2.2.2.2.1 y.1∧jz_ 3 y.2.2.2.2.2.1 y.2.2.2.2.2.2.1∧aE_ 3 1 y.2.2.2.2.2.2.2.1 (List.length (fsI l y.1)) (List.flatMap N_ (fsI l y.1)) y.2.2.2.2.2.2.2.2.1∧aE_ 48 9 y.2.2.2.2.2.2.2.2.2.1 (List.length y.2.2.2.2.2.1) (List.flatMap Stp.cells y.2.2.2.2.2.1) y.2.2.2.2.2.2.2.2.2.2}) (fun y=>[(2,zp_ b2 0),(3,.int .i64 0),(5,.map (some b3)),(6,y.1.2.2.2.2.2.2.2.1),(7,y.1.2.2.2.2.2.2.2.2.2.1),(37,.slice ad (List.length l) cap),(38,.int .i64 (List.length l:Int)),(39,.int .i64 (y.1.1:Int))]) (fun y=>((b2,.cells #[.slice none 0 0] 29 (0,0))::((b1,.cells #[.slice ad (List.length l) cap] 29 (0,0))::((b3,.map y.1.2.2.2.1 y.1.2.2.2.2.1)::(y.1.2.2.2.2.2.2.1++(y.1.2.2.2.2.2.2.2.2.1++y.1.2.2.2.2.2.2.2.2.2.2)))))) (fun y=>[af_ ad (List.flatMap Stp.cells l),ax_ l]) (fun y=>List.length l - y.1.1) ⟨((0:Nat),[],[],#[],0,(List.replicate (List.length l) Stp.zero),[],svF,HrF,svS,HrS),by simp,IntE.nil,KnI.nil l,TsI.zero l,lA_ _ _,hqF,hqS⟩ zl zp zh ?_
  rintro ⟨⟨i,ks,vs,es,ck,ts,HO,sv_F,H_F,sv_S,H_S⟩,hi_i,hE,hk,ht,ho,hr_F,hr_S⟩
  dsimp only at hi_i hE hk ht ho hr_F hr_S ⊢
  refine Zi 2 (fun hr2=>?_) fun hr2=>?_
  ·refine Zz 7 ?_
   have ei:i=List.length l:=by omega
   subst ei
   have hF9:aE_ 3 1 sv_F (List.length (fsL l)) (List.flatMap N_ (fsL l)) H_F:=by have q:=hr_F;rw[tC_ l (Nat.le_refl _)]at q;exact q
   have hll:=List.length_pos_iff.2 hne
   obtain⟨xl,hxl⟩:∃ xl,l[List.length l - 1]? = some xl:=⟨_,List.getElem?_eq_getElem (by omega)⟩
   have hfl9:=gM_ l
   have hflast:(fsL l)[(Int.toNat ((List.length (fsL l):Int) - 1))]? = some (bd_ l xl:Int):=by rw[show (Int.toNat ((List.length (fsL l):Int) - 1))=List.length l - 1 by omega];exact jH_ hxl
   have hlflast:(Int.toNat ((List.length (fsL l):Int) - 1))<List.length (fsL l):=by omega
   refine Zz 3 ?_
   refine i_ (ch_ hF9 f_ rfl) rfl (Zz 1 ?_)
   refine i_ (ah_ hF9 f_ o_ rfl rfl (by omega) (by omega)) rfl (i_ (av_ hF9 zp O_ rfl (t_ D_ hflast 0 _ rfl)) rfl (Zz 5 ?_))
   refine J_ Z_ rfl fun b4=>Zz 4 ?_
   refine bk_ hr_S (c_ (c_ (c_ (c_ (e_ V_))))) fun sd1 sc1 hsd1 hcsd1 hmsd1 hzsd1=>?_
   subst hsd1
   have hxm:=List.mem_of_getElem? hxl
   have hla:=hI_ hxm
   have htl:=ht.len
   refine Zz 3 ?_
   refine i_ (aY_ (dx_ rfl rfl rfl (fQ_ (by omega) (by omega))) (show Value.int .i64 ((bd_ l xl:Int)+1)=Value.int .i64 ((bd_ l xl+1:Nat):Int) from congrArg _ (by omega))) rfl (i_ (aY_ (do_ (i:=0) (j:=(bd_ l xl+1:Nat)) (kl:=.i64) (kh:=.i64) P_ ap_ rfl rfl rfl (by omega) (by have:=hcsd1;omega)) (show _=Value.slice (sad sd1 sc1 0 9) (List.length (List.take (bd_ l xl+1:Nat) ts)) (sc1 - 0) by rw[List.length_take,Nat.min_eq_left (by omega)];rfl)) rfl ?_)
   refine n_ (rJ_ (List.take (bd_ l xl+1:Nat) ts) (sad sd1 sc1 0 9) (sc1 - 0)) rfl m_ zt rfl fun bN=>Zz 3 ?_
   have hord2:=ht.ord hord
   have hordu:∀ (n:Nat) t,(List.take (bd_ l xl+1) ts)[n]? = some t→∀ q∈t.frm,0≤q∧q<(n:Int):=fun n t h=>hord2 n t (dG_ h)
   have hulen:List.length (List.take (bd_ l xl+1) ts)=bd_ l xl+1:=by rw[List.length_take];omega
   have hneu:(List.take (bd_ l xl+1) ts)≠[]:=fun q=>by rw[q]at hulen;simp at hulen
   have hflu:=ht.fl hfl
   refine eA_ (g_ d_ (p_ (c_ (c_ (c_ (c_ l_)))) (g_ d_ d_))) zh ?_
   refine dC_ [(2,zp_ b2 0),(7,.slice sd1 (List.length ts) sc1),(13,zp_ b4 0),(97,.func (.func 107) #[] #[zp_ bN 0])] zl ?_
   refine og_ (σ:={y:Value×Hp×List Int // aE_ 3 1 y.1 y.2.2.length (y.2.2.flatMap N_) y.2.1}) (α:=Int) (xv:=fun x=>.int .i64 x) (good:=fun s _=>s.1.2.2.length<1000000000000) (nx:=fun x s s'=>s'.1.2.2=s.1.2.2++[x]) (Rc:=fun s=>NdL (List.take (bd_ l xl+1) ts) s.1.2.2) (Γi:=[af_ (sad sd1 sc1 0 9) (List.flatMap Stp.cells (List.take (bd_ l xl+1:Nat) ts))]) (Hj:=fun y=>(b4,.cells #[y.1.1] 46 (0,0))::(b2,.cells #[.slice none 0 0] 29 (0,0))::y.1.2.1) (Hc:=(bN,.cells #[.slice (sad sd1 sc1 0 9) (List.length (List.take (bd_ l xl+1:Nat) ts)) (sc1 - 0)] 27 (0,0))::HO) (caps:=[zp_ bN 0]) ⟨(.slice none 0 0,[],[]),aE_.nil _ _⟩ rfl (.refl _) (fun v _ h=>by exact⟨(bv_.slice Stp.cells_len h.1 hcsd1 0 (bd_ l xl+1:Nat)),trivial⟩) ?_ ?_ ?_
   ·rintro l2 D rec hp hst hpe htt hasg hbody ⟨⟨sv,Hq,L⟩,hr⟩ x hx'
    dsimp only at hr hx' ⊢
    refine mI_ (ι:=Unit) (Hj:=fun y:{y:Value×Hp×List Int // aE_ 3 1 y.1 y.2.2.length (y.2.2.flatMap N_) y.2.1}=>(b4,.cells #[y.1.1] 46 (0,0))::(b2,.cells #[.slice none 0 0] 29 (0,0))::y.1.2.1) (s:=⟨(sv,Hq,L),hr⟩) (ok:=fun s'=>s'.1.2.2=L++[x]) (Γ:=[]) (fun _=>[(13,zp_ b4 0),(14,.int .i64 x)]) (fun _=>(b4,.cells #[sv] 46 (0,0))::(b2,.cells #[.slice none 0 0] 29 (0,0))::Hq) hp hst hpe htt rfl ?_ ?_
    ·intro n v0 H0 HL
     rw[hasg]
     dsimp only
     refine hi_.2 (u_ (H':=(b4,.cells #[sv] 46 (0,0))::(b2,.cells #[.slice none 0 0] 29 (0,0))::(Hq++HL)) (by simp) (hi_.1 ?_))
     refine hd_ ?_
     refine gh_ (fp_ _) (hT_ rfl) rfl rfl ?_
     refine kn_ ?_
     refine kG_ rfl ?_
     exact lE_ () zl (F:=[]) (by rw[List.append_nil];exact .refl _) zh
    intro n v0 H0 HL _
    rw[hbody]
    refine hi_.2 (u_ (H':=(b4,.cells #[sv] 46 (0,0))::(b2,.cells #[.slice none 0 0] 29 (0,0))::(Hq++HL)) (by simp) (hi_.1 ?_))
    refine oi_ ?_
    refine hd_ ?_
    refine gh_ (fp_ _) (bx_ 0 Tryz.isAgg46 rfl rfl rfl) rfl rfl ?_
    refine gh_ (fp_ _) (az_ rfl) rfl rfl ?_
    refine pV_ (fp_ _) f_ o_ A_ rfl rfl rfl rfl rfl rfl fun b5=>?_
    refine nj_ (fp_ _) (news:=List.flatMap N_ [x]) bP_ hr rfl rfl zp rfl (by_ 0 rfl) (fun u hu=>ar_ bp_ hu) (by simp only[maxLen];omega) (by omega) rfl fun sv1 Hr1 hr1=>?_
    have hq1:aE_ 3 1 sv1 (List.length (L++[x])) (List.flatMap N_ (L++[x])) Hr1:=by rw[List.length_append,List.flatMap_append];exact hr1
    refine rF_ (q_ (e_ d_) (q_ (e_ d_) (ak_ (e_ d_)))) ?_
    refine kX_ (fp_ _) 1 hq1 ik_ rfl rfl rfl rfl ?_
    refine kn_ ?_
    refine kG_ rfl ?_
    exact oj_ ⟨(sv1,Hr1,(L++[x])),hq1⟩ rfl (pf_as3 (g_ (c_ d_) (g_ (c_ d_) (p_ (c_ l_) (p_ F_ d_)))))
   ·intro l2 Gj hY
    exact pW_ (lst:=fun y:{y:Value×Hp×List Int // aE_ 3 1 y.1 y.2.2.length (y.2.2.flatMap N_) y.2.1}=>y.1.2.2) (fun s x h=>hY s x h) ⟨(.slice none 0 0,[],[]),aE_.nil _ _⟩ rfl (List.take (bd_ l xl+1) ts) ts (sad sd1 sc1 0 9) (sc1 - 0) bN HO hneu hordu (fun n s h=>dG_ h) ho (by omega) (fun s h=>hflu s (List.mem_of_mem_take h))
   rintro ⟨⟨sv,Hq,L⟩,hr⟩ hL D l2 r'
   dsimp only at hL hr ⊢
   refine nB_ (u_ (H':=(bN,.cells #[.slice (sad sd1 sc1 0 9) (List.length (List.take (bd_ l xl+1:Nat) ts)) (sc1 - 0)] 27 (0,0))::(HO++((b4,.cells #[sv] 46 (0,0))::(b2,.cells #[.slice none 0 0] 29 (0,0))::(Hq++HLp l2 D r')))) (by simp) ?_)
   have hLl:List.length L≤100000000:=tr_ hL hordu (by omega)
   refine nC_ rfl (u_ (q_ d_ (q_ (e_ d_) (ak_ (e_ d_)))) (Zz 3 ?_))
   refine n_ (pJ_ L sv Hq hr (by omega)) rfl zp zt rfl fun⟨HQ2,hrv⟩=>?_
   dsimp only
   obtain⟨O,hO⟩:∃ O,O=List.reverse L:=⟨_,rfl⟩
   rw[← hO]at hrv
   have hOi:O.Pairwise (·<·):=by rw[hO,List.pairwise_reverse];exact hL.dec
   have hOn:∀ x∈O,∃ n:Nat,x=n∧Nd (List.take (bd_ l xl+1) ts) n:=fun x hx=>hL.nat x (by rw[hO]at hx;simpa using hx)
   have hOa:∀ n,Nd (List.take (bd_ l xl+1) ts) n→(n:Int)∈O:=fun n hn=>by rw[hO];simpa using hL.all n hn
   have hO0:∀ x∈O,0≤x:=fun x hx=>by obtain⟨n,e,_⟩:=hOn x hx;omega
   have hOl:List.length O≤100000000:=by rw[hO,List.length_reverse];exact hLl
   refine u_ (q_ (e_ d_) (q_ (e_ d_) (ak_ (e_ d_)))) (Zz 6 ?_)
   refine dn_ (n:=List.length ts) (by':=8) fd_ (z:=(.int .i64 0)) zk rfl (by decide) rfl rfl (by omega) (by simp only[maxLen];omega) rfl fun svP HrP hrP=>?_
   have hqP:aE_ 3 1 svP (List.length (List.replicate (List.length ts) (0:Int))) (List.flatMap N_ (List.replicate (List.length ts) (0:Int))) HrP:=by rw[List.length_replicate,← ev_ N_];exact hrP
   refine Zz 4 ?_
   refine u_ (q_ (e_ d_) (q_ (e_ d_) (ak_ (e_ d_)))) (Zz 3 ?_)
   refine i_ (ch_ hrv f_ rfl) rfl (Zz 4 ?_)
   refine u_ (H':=([]:Hp)++((bN,.cells #[.slice (sad sd1 sc1 0 9) (List.length (List.take (bd_ l xl+1:Nat) ts)) (sc1 - 0)] 27 (0,0))::((b4,.cells #[sv] 46 (0,0))::((b2,.cells #[.slice none 0 0] 29 (0,0))::(HrP++(HQ2++(HO++(HLp l2 D r')))))))) (List.Perm.refl _) ?_
   refine Q_ (ι:={y:Nat×List Int×List Stp×List Stp×Hp×Value×Hp×Value×Hp // y.1≤List.length O∧PlI ts O y.1 y.2.1 y.2.2.1 y.2.2.2.1∧jz_ 3 y.2.2.1 y.2.2.2.2.1∧aE_ 3 1 y.2.2.2.2.2.1 (List.length y.2.1) (List.flatMap N_ y.2.1) y.2.2.2.2.2.2.1∧aE_ 48 9 y.2.2.2.2.2.2.2.1 (List.length y.2.2.2.1) (List.flatMap Stp.cells y.2.2.2.1) y.2.2.2.2.2.2.2.2}) (fun y=>[(2,zp_ b2 0),(7,.slice sd1 (List.length ts) sc1),(15,y.1.2.2.2.2.2.1),(108,sv),(109,.int .i64 (List.length O:Int)),(110,.int .i64 (y.1.1:Int))]) (fun y=>((b4,.cells #[sv] 46 (0,0))::((b2,.cells #[y.1.2.2.2.2.2.2.2.1] 29 (0,0))::(HQ2++(y.1.2.2.2.2.1++((HLp l2 D r')++(y.1.2.2.2.2.2.2.1++y.1.2.2.2.2.2.2.2.2))))))) (fun y=>[af_ sd1 (List.flatMap Stp.cells ts),af_ ad (List.flatMap Stp.cells l),ax_ l]) (fun y=>List.length O - y.1.1) ⟨((0:Nat),(List.replicate (List.length ts) 0),ts,[],HO,svP,HrP,(.slice none 0 0),[]),by simp,PlI.zero ts O,by exact ho,hqP,(aE_.nil 48 9)⟩ zl zp zh ?_
   rintro ⟨⟨k,pl,tk,Y,HO_k,sv_P,H_P,sv_Y,H_Y⟩,hi_k,hPl,ho_k,hr_P,hr_Y⟩
   dsimp only at hi_k hPl ho_k hr_P hr_Y ⊢
   refine Zi 2 (fun hr3=>?_) fun hr3=>?_
   ·refine Zz 7 ?_
    have ek:k=List.length O:=by omega
    subst ek
    refine bk_ hr_Y (c_ (c_ (e_ (e_ (e_ V_))))) fun yad ycap hyad hcyad hmyad hzyad=>?_
    subst hyad
    refine rD_ (c_ (c_ (e_ l_))) ho_k ?_
    refine Zz 2 ?_
    refine z_ 1 aT_ rfl rfl rfl rfl rfl rfl (Zz 4 ?_)
    have hT:=hPl.done ht hord hxl hOi hOn hOa
    have hYl:=hPl.yl
    exact retMF ⟨(Y,yad,ycap,0),(fun _=>⟨rfl,⟨O,hT⟩,by dsimp only;omega,hcyad,hmyad,hzyad⟩),fun q=>absurd ⟨hne,hord⟩ q⟩ (fun aa v h1 h2 _=>dj_ 0 Tryz.results21 fE_ aT_ rfl rfl rfl rfl aa v h1 h2) (pf_D (B:=[_]) (g_ (c_ d_) (c_ (e_ l_)))) ⟨_,m_⟩ (fun v _ h=>by exact⟨h.2.1,ln_ h.1 (hPl.sub (Nat.le_refl _)),trivial⟩)
   obtain⟨hlx1,x1,hx1,hmx1⟩:=zge (show k<List.length O by omega)
   obtain⟨n,e_x1,hnd⟩:=hOn x1 hmx1
   subst e_x1
   have hs1l:n<List.length ts:=by have q:=lD_ hordu hnd;omega
   have hls1:n<List.length ts:=hs1l
   obtain⟨s1,hs1⟩:∃ e0,ts[n]? = some e0:=⟨_,List.getElem?_eq_getElem hls1⟩
   have hms1:s1∈ts:=List.mem_of_getElem? hs1
   have hU1:(List.take (bd_ l xl+1) ts)[n]? = some s1:=by rw[List.getElem?_take_of_lt (by have q:=lD_ hordu hnd;omega)];exact hs1
   have hpll:=hPl.pln
   have hlw1:n<List.length pl:=by omega
   obtain⟨w1,hw1⟩:∃ e0,pl[n]? = some e0:=⟨_,List.getElem?_eq_getElem hlw1⟩
   have hmw1:w1∈pl:=List.mem_of_getElem? hw1
   have htn:=hPl.at hOi hx1 hs1
   have hfs1:=hflu s1 hms1
   refine Zz 11 ?_
   refine i_ (ah_ hrv f_ o_ rfl rfl (by omega) (by omega)) rfl (i_ (av_ hrv zp O_ rfl (t_ D_ hx1 0 _ rfl)) rfl (Zz 9 ?_))
   refine i_ (ah_ hr_P f_ o_ rfl rfl (by omega) (by omega)) rfl (bQ_ (k:=(n:Int).toNat*1+0) hr_P zp o_ rfl rfl (by omega) rfl rfl fun Hr2 hr2=>?_)
   have hs2:=(cU_ N_ 1 D_ pl n 0 w1 (k:Int) (.int .i64 (k:Int)) hw1 (by decide) rfl).trans (congrArg _ (rfl))
   have hq2:aE_ 3 1 sv_P (List.length (List.set pl n (k:Int))) (List.flatMap N_ (List.set pl n (k:Int))) Hr2:=by rw[← hs2,show List.length (List.set pl n (k:Int))=List.length pl from (List.length_set ..)];exact hr2
   refine Zz 2 ?_
   refine u_ (q_ (e_ d_) (ak_ (e_ d_))) (Zz 6 ?_)
   refine J_ bn_ rfl fun b6=>z_ 0 ap_ rfl rfl rfl rfl rfl rfl (Zz 4 ?_)
   obtain⟨Hs9,Hr9,hp1,hp2,hp3⟩:=ho_k.get htn
   refine u_ (List.Perm.trans (c_ (c_ (c_ (e_ (e_ l_))))) (hp1.append_right _)) (u_ (List.Perm.of_eq (List.append_assoc ..)) ?_)
   have hW0:aE_ 3 1 (.slice s1.ad (List.length s1.frm) s1.cap) (List.length (eI_ O s1.frm 0)) (List.flatMap N_ (eI_ O s1.frm 0)) Hs9:=by rw[pY_];exact hp2
   refine u_ (q_ (e_ (e_ d_)) (q_ (e_ (e_ d_)) (ak_ (e_ (e_ d_))))) (Zz 3 ?_)
   refine i_ (ch_ hW0 f_ rfl) rfl (Zz 4 ?_)
   refine Q_ (ι:={y:Nat×Value×Hp // y.1≤List.length s1.frm∧y.2.1=.slice s1.ad (List.length s1.frm) s1.cap∧aE_ 3 1 y.2.1 (List.length (eI_ O s1.frm y.1)) (List.flatMap N_ (eI_ O s1.frm y.1)) y.2.2}) (fun y=>[(2,zp_ b2 0),(7,.slice sd1 (List.length ts) sc1),(15,sv_P),(108,sv),(109,.int .i64 (List.length O:Int)),(110,.int .i64 (k:Int)),(18,zp_ b6 0),(124,y.1.2.1),(125,.int .i64 (List.length (eI_ O s1.frm 0):Int)),(126,.int .i64 (y.1.1:Int))]) (fun y=>((b6,.cells #[.int .i64 s1.rule,.int .i64 (Fc.kind s1.fact),str (Fc.a s1.fact),str (Fc.b s1.fact),str (Fc.r s1.fact),.int .i64 (Fc.lo s1.fact),.int .i64 (Fc.hi s1.fact),.int .i64 s1.piece,.slice s1.ad (List.length s1.frm) s1.cap] 48 (0,0))::((b4,.cells #[sv] 46 (0,0))::((b2,.cells #[sv_Y] 29 (0,0))::(Hr9++(Hr2++(HQ2++((HLp l2 D r')++(H_Y++y.1.2.2))))))))) (fun y=>[af_ sd1 (List.flatMap Stp.cells ts),af_ ad (List.flatMap Stp.cells l),ax_ l]) (fun y=>List.length s1.frm - y.1.1) ⟨((0:Nat),(.slice s1.ad (List.length s1.frm) s1.cap),Hs9),by simp,rfl,hW0⟩ zl zp zh ?_
   rintro ⟨⟨j,sv_W,H_W⟩,hi_j,hsw,hr_W⟩
   dsimp only at hi_j hsw hr_W ⊢
   refine Zi 2 (fun hr4=>?_) fun hr4=>?_
   ·refine Zz 6 ?_
    have hmj:=gk_ O s1.frm 0
    have hYk:=hPl.yl
    have hor:oH_ 3 (Stp.mk s1.rule s1.fact s1.piece s1.ad s1.cap (List.map (pix O) s1.frm)) H_W:=by have q:=hr_W;rw[hsw,rQ_ O s1.frm (by omega)]at q;unfold oH_;simp only[List.length_map]at q ⊢;exact q
    obtain⟨HO2,ho2,hpo⟩:=hp3 (Stp.mk s1.rule s1.fact s1.piece s1.ad s1.cap (List.map (pix O) s1.frm)) H_W hor
    refine u_ (List.Perm.trans (p_ (c_ (c_ (c_ (e_ (e_ (e_ (e_ V_))))))) (c_ (c_ (c_ l_)))) (hpo.symm.append_right _)) (u_ (q_ (e_ d_) (q_ (e_ d_) (ak_ (e_ d_)))) (Zz 4 ?_))
    refine S_ P_ ap_ bn_ rfl rfl rfl rfl rfl rfl fun b7=>?_
    refine ao_ (news:=List.flatMap Stp.cells [s1]) hM_ hr_Y rfl rfl zp rfl (by_ 0 rfl) (fun u hu=>ar_ Stp.cells_one hu) (by simp only[maxLen];first|omega|(simp;omega)) (by first|omega|(simp;omega)) rfl fun sv3 Hr3 hr3=>?_
    have hq3:aE_ 48 9 sv3 (List.length (Y++[s1])) (List.flatMap Stp.cells (Y++[s1])) Hr3:=by rw[List.length_append,List.flatMap_append];exact hr3
    refine Zz 1 ?_
    refine u_ (q_ (e_ d_) (q_ (e_ d_) (q_ (e_ d_) (ak_ (e_ d_))))) (dq_ 3 hq3 ei_ rfl rfl rfl rfl (Zz 7 ?_))
    exact y_ ⟨(k+1,(List.set pl n (k:Int)),(List.set tk n (Stp.mk s1.rule s1.fact s1.piece s1.ad s1.cap (List.map (pix O) s1.frm))),(Y++[(Stp.mk s1.rule s1.fact s1.piece s1.ad s1.cap (List.map (pix O) s1.frm))]),HO2,sv_P,Hr2,sv3,Hr3),hlx1,hPl.step hOi hO0 hx1 hs1,ho2,hq2,(by have q:=hq3;rw[show List.flatMap Stp.cells (Y++[s1])=List.flatMap Stp.cells (Y++[(Stp.mk s1.rule s1.fact s1.piece s1.ad s1.cap (List.map (pix O) s1.frm))]) by rw[List.flatMap_append,List.flatMap_append];congr 1;simp[Stp.cells],show (Y++[s1]).length=(Y++[(Stp.mk s1.rule s1.fact s1.piece s1.ad s1.cap (List.map (pix O) s1.frm))]).length by simp]at q;exact q)⟩ (by dsimp only;omega) ⟨rfl,rfl,rfl,rfl,rfl,rfl,trivial⟩ (g_ (c_ (c_ d_)) (g_ (c_ (c_ d_)) (p_ (c_ (c_ (e_ (e_ (e_ l_))))) (p_ (c_ (c_ (e_ l_))) (p_ (c_ (c_ (e_ V_))) (p_ (c_ (c_ V_)) (c_ F_))))))) (fun _ _ h=>h)
   have hjl:j<List.length s1.frm:=by have q:=gk_ O s1.frm 0;omega
   have hlx2:j<List.length s1.frm:=hjl
   obtain⟨x2,hx2⟩:∃ e0,s1.frm[j]? = some e0:=⟨_,List.getElem?_eq_getElem hlx2⟩
   have hmx2:x2∈s1.frm:=List.mem_of_getElem? hx2
   have hmx:=rP_ (O:=O) hx2
   have hlmx:j<List.length (eI_ O s1.frm j):=by rw[gk_];exact hjl
   have hx2b:=hord2 n s1 hs1 x2 hmx2
   have ex2:((Int.toNat x2:Nat):Int)=x2:=by omega
   have hmO:x2∈O:=by have q:=hOa (Int.toNat x2) (.step hnd hU1 (by rw[ex2];exact hmx2));rwa [ex2]at q
   have hpx:=hPl.place hOi hx1 hs1l hmO hx2b.1 hx2b.2
   have hlpx:=(List.getElem?_eq_some_iff.1 hpx).1
   refine Zz 11 ?_
   refine i_ (ah_ hr_W f_ o_ rfl rfl (by omega) (by omega)) rfl (i_ (av_ hr_W zp O_ rfl (t_ D_ hmx 0 _ rfl)) rfl (Zz 4 ?_))
   refine oN_ (ι:={y:Value×Hp // aE_ 3 1 y.1 (List.length (eI_ O s1.frm (j+1))) (List.flatMap N_ (eI_ O s1.frm (j+1))) y.2∧y.1=.slice s1.ad (List.length s1.frm) s1.cap}) (fun y=>[(2,zp_ b2 0),(7,.slice sd1 (List.length ts) sc1),(15,sv_P),(108,sv),(109,.int .i64 (List.length O:Int)),(110,.int .i64 (k:Int)),(18,zp_ b6 0),(124,y.1.1),(125,.int .i64 (List.length (eI_ O s1.frm 0):Int)),(126,.int .i64 (j:Int))]) (fun y=>((b2,.cells #[sv_Y] 29 (0,0))::((b4,.cells #[sv] 46 (0,0))::((b6,.cells #[.int .i64 s1.rule,.int .i64 (Fc.kind s1.fact),str (Fc.a s1.fact),str (Fc.b s1.fact),str (Fc.r s1.fact),.int .i64 (Fc.lo s1.fact),.int .i64 (Fc.hi s1.fact),.int .i64 s1.piece,.slice s1.ad (List.length s1.frm) s1.cap] 48 (0,0))::((HLp l2 D r')++(Hr2++(HQ2++(y.1.2++(Hr9++H_Y))))))))) (fun y=>[af_ sd1 (List.flatMap Stp.cells ts),af_ ad (List.flatMap Stp.cells l),ax_ l]) ?_ ?_
   ·refine ae_ ((b6,.cells #[.int .i64 s1.rule,.int .i64 (Fc.kind s1.fact),str (Fc.a s1.fact),str (Fc.b s1.fact),str (Fc.r s1.fact),.int .i64 (Fc.lo s1.fact),.int .i64 (Fc.hi s1.fact),.int .i64 s1.piece,.slice s1.ad (List.length s1.frm) s1.cap] 48 (0,0))::((b4,.cells #[sv] 46 (0,0))::((b2,.cells #[sv_Y] 29 (0,0))::(Hr9++(Hr2++(HQ2++((HLp l2 D r')++H_Y))))))) zk ?_
    refine s_ 1 [0,1,2,3,4,5,6,7] zk zs (Zz 1 ?_)
    refine R_ rfl (aY_ (bx_ 0 Tryz.isAgg46 rfl rfl rfl) (show _=sv_W from hsw.symm)) rfl (Zz 3 ?_)
    refine R_ rfl (ah_ hq2 f_ o_ rfl rfl (by omega) (by omega)) rfl (R_ rfl (av_ hq2 zp O_ rfl (t_ D_ hpx 0 _ rfl)) rfl (R_ rfl (ah_ hr_W f_ o_ rfl rfl (by omega) (by omega)) rfl (cJ_ (j_ 8 rfl zk (bQ_ (k:=(j:Int).toNat*1+0) hr_W zp o_ rfl rfl (by omega) rfl rfl fun Hr4 hr4=>?_)))))
    have hs4:=(cU_ N_ 1 D_ (eI_ O s1.frm j) j 0 x2 (pix O x2) (.int .i64 (pix O x2)) hmx (by decide) rfl).trans (congrArg _ (rO_ hx2))
    have hq4:aE_ 3 1 sv_W (List.length (eI_ O s1.frm (j+1))) (List.flatMap N_ (eI_ O s1.frm (j+1))) Hr4:=by rw[← hs4,show List.length (eI_ O s1.frm (j+1))=List.length (eI_ O s1.frm j) from (by rw[gk_,gk_])];exact hr4
    refine Zz 2 ?_
    refine K_ zs (Zz 2 ?_)
    exact iB_ ⟨(sv_W,Hr4),hq4,hsw⟩ zl zp zf
   rintro ⟨⟨sv_W,H_W⟩,hr_W,hsw⟩
   dsimp only at hr_W hsw ⊢
   refine dC_ [(2,zp_ b2 0),(7,.slice sd1 (List.length ts) sc1),(15,sv_P),(108,sv),(109,.int .i64 (List.length O:Int)),(110,.int .i64 (k:Int)),(18,zp_ b6 0),(124,sv_W),(125,.int .i64 (List.length (eI_ O s1.frm 0):Int)),(126,.int .i64 (j:Int))] zl ?_
   refine Zz 6 ?_
   exact y_ ⟨(j+1,sv_W,H_W),hlx2,hsw,hr_W⟩ (by dsimp only;omega) zl zp zh
  obtain⟨hlx1,x1,hx1,hmx1⟩:=zge (show i<List.length l by omega)
  refine Zz 13 ?_
  refine J_ bn_ rfl fun b8=>Zz 1 ?_
  refine z_ 0 ap_ rfl rfl rfl rfl rfl rfl (Zz 10 ?_)
  refine n_ (rf_ x1.fact (i:Int) ks vs b3 es ck hE) rfl (c_ (c_ (c_ d_))) zt rfl fun⟨⟨⟨rc1,rn1⟩,er1,cr1⟩,hrc1,hrm1,hE1⟩=>?_
  dsimp only
  simp only[List.cons_append,List.nil_append]
  obtain⟨hk2,e_rn⟩:=KnI.recR hk hE.len hx1 hrm1
  subst e_rn
  have hlw1:i<List.length (fsI l i):=by rw[jI_ l hi_i];exact hlx1
  obtain⟨w1,hw1⟩:∃ e0,(fsI l i)[i]? = some e0:=⟨_,List.getElem?_eq_getElem hlw1⟩
  have hmw1:w1∈(fsI l i):=List.mem_of_getElem? hw1
  refine Zz 3 ?_
  refine i_ (ah_ hr_F f_ o_ rfl rfl (by omega) (by omega)) rfl (bQ_ (k:=(i:Int).toNat*1+0) hr_F zp o_ rfl rfl (by omega) rfl rfl fun Hr5 hr5=>?_)
  have hs5:=(cU_ N_ 1 D_ (fsI l i) i 0 w1 (bd_ l x1:Int) (.int .i64 (bd_ l x1:Int)) hw1 (by decide) rfl).trans (congrArg _ (tB_ hx1))
  have hq5:aE_ 3 1 sv_F (List.length (fsI l (i+1))) (List.flatMap N_ (fsI l (i+1))) Hr5:=by rw[← hs5,show List.length (fsI l (i+1))=List.length (fsI l i) from (by rw[jI_ l hlx1,jI_ l hi_i])];exact hr5
  refine Zz 2 ?_
  refine u_ (q_ (e_ d_) (q_ (e_ d_) (q_ (e_ d_) (ak_ (e_ d_))))) (cg_ ?_)
  have hlts:i<List.length ts:=by rw[ht.len];exact hlx1
  obtain⟨t0,ht0⟩:∃ t0,ts[i]? = some t0:=⟨_,List.getElem?_eq_getElem hlts⟩
  refine Zz 4 ?_
  refine i_ (ah_ hr_S P_ ap_ rfl rfl (by omega) (by omega)) rfl (om_ (k:=i*9) (us:=Stp.cells x1) hr_S zp ap_ rfl rfl (by omega) (Stp.cells_len _) (by decide) (Stp.cells_one _) fun Hr6 hr6=>?_)
  have hs6:=pd_ Stp.cells 9 Stp.cells_len ts i x1 (by omega)
  have hq6:aE_ 48 9 sv_S (List.length (List.set ts i x1)) (List.flatMap Stp.cells (List.set ts i x1)) Hr6:=by rw[List.length_set,← hs6];exact hr6
  refine Zz 2 ?_
  refine u_ (q_ (e_ d_) (q_ (e_ d_) (q_ (e_ d_) (ak_ (e_ d_))))) (cg_ ?_)
  have hse:(List.set ts i x1)[i]? = some x1:=List.getElem?_set_self hlts
  have hsl:i<List.length (List.set ts i x1):=by rw[List.length_set];exact hlts
  refine Zz 3 ?_
  refine i_ (ah_ hq6 P_ ap_ rfl rfl (by omega) (by omega)) rfl (Zz 1 ?_)
  refine bQ_ (k:=(i:Int).toNat*9+8) hq6 zp ik_ rfl rfl (by omega) rfl rfl fun Hr7 hr7=>?_
  have hs7:=(cU_ Stp.cells 9 Stp.cells_len (List.set ts i x1) i 8 x1 (Stp.mk x1.rule x1.fact x1.piece none 0 []) (.slice none 0 0) hse (by decide) rfl).trans (congrArg _ (List.set_set ..))
  have hq7:aE_ 48 9 sv_S (List.length (List.set ts i (Stp.mk x1.rule x1.fact x1.piece none 0 []))) (List.flatMap Stp.cells (List.set ts i (Stp.mk x1.rule x1.fact x1.piece none 0 []))) Hr7:=by rw[← hs7,show List.length (List.set ts i (Stp.mk x1.rule x1.fact x1.piece none 0 []))=List.length (List.set ts i x1) from (by rw[List.length_set,List.length_set])];exact hr7
  refine Zz 2 ?_
  refine u_ (q_ (e_ d_) (q_ (e_ d_) (q_ (e_ d_) (ak_ (e_ d_))))) (Zz 9 ?_)
  refine u_ (H':=([]:Hp)++((b3,.map er1 cr1)::((b8,.cells #[.int .i64 x1.rule,.int .i64 (Fc.kind x1.fact),str (Fc.a x1.fact),str (Fc.b x1.fact),str (Fc.r x1.fact),.int .i64 (Fc.lo x1.fact),.int .i64 (Fc.hi x1.fact),.int .i64 x1.piece,.slice x1.ad (List.length x1.frm) x1.cap] 48 (0,0))::((b2,.cells #[.slice none 0 0] 29 (0,0))::((b1,.cells #[.slice ad (List.length l) cap] 29 (0,0))::(Hr7++(Hr5++HO))))))) (List.Perm.refl _) ?_
  have hlx1f:=hfl x1 hmx1
  refine Q_ (ι:={y:Nat×Option Addr×Nat×Value×Hp×Value×Hp×Value×Hp // y.1≤List.length x1.frm∧y.2.2.2.2.2.2.2.1=.slice y.2.1 (List.length (List.map (hF l) (List.take y.1 x1.frm))) y.2.2.1∧aE_ 3 1 y.2.2.2.1 (List.length (fsI l (i+1))) (List.flatMap N_ (fsI l (i+1))) y.2.2.2.2.1∧aE_ 48 9 y.2.2.2.2.2.1 (List.length (List.set ts i (Stp.mk x1.rule x1.fact x1.piece y.2.1 y.2.2.1 (List.map (hF l) (List.take y.1 x1.frm))))) (List.flatMap Stp.cells (List.set ts i (Stp.mk x1.rule x1.fact x1.piece y.2.1 y.2.2.1 (List.map (hF l) (List.take y.1 x1.frm))))) y.2.2.2.2.2.2.1∧aE_ 3 1 y.2.2.2.2.2.2.2.1 (List.length (List.map (hF l) (List.take y.1 x1.frm))) (List.flatMap N_ (List.map (hF l) (List.take y.1 x1.frm))) y.2.2.2.2.2.2.2.2}) (fun y=>[(2,zp_ b2 0),(3,.int .i64 0),(5,.map (some b3)),(6,y.1.2.2.2.1),(7,y.1.2.2.2.2.2.1),(37,.slice ad (List.length l) cap),(38,.int .i64 (List.length l:Int)),(39,.int .i64 (i:Int)),(8,.int .i64 (i:Int)),(64,.slice x1.ad (List.length x1.frm) x1.cap),(65,.int .i64 (List.length x1.frm:Int)),(66,.int .i64 (y.1.1:Int))]) (fun y=>((b3,.map er1 cr1)::((b8,.cells #[.int .i64 x1.rule,.int .i64 (Fc.kind x1.fact),str (Fc.a x1.fact),str (Fc.b x1.fact),str (Fc.r x1.fact),.int .i64 (Fc.lo x1.fact),.int .i64 (Fc.hi x1.fact),.int .i64 x1.piece,.slice x1.ad (List.length x1.frm) x1.cap] 48 (0,0))::((b2,.cells #[.slice none 0 0] 29 (0,0))::((b1,.cells #[.slice ad (List.length l) cap] 29 (0,0))::(HO++(y.1.2.2.2.2.1++(y.1.2.2.2.2.2.2.1++y.1.2.2.2.2.2.2.2.2)))))))) (fun y=>[af_ ad (List.flatMap Stp.cells l),ax_ l]) (fun y=>List.length x1.frm - y.1.1) ⟨((0:Nat),none,0,sv_F,Hr5,sv_S,Hr7,(.slice none 0 0),[]),by simp,rfl,hq5,hq7,(aE_.nil 3 1)⟩ zl zp zh ?_
  rintro ⟨⟨j,adj,cpj,sv_F,H_F,sv_S,H_S,sv_R,H_R⟩,hi_j,hsv,hr_F,hr_S,hr_R⟩
  dsimp only at hi_j hsv hr_F hr_S hr_R ⊢
  refine Zi 2 (fun hr5=>?_) fun hr5=>?_
  ·refine Zz 6 ?_
   have e9:List.take j x1.frm=Stp.frm x1:=List.take_of_length_le (by omega)
   have hoR:oH_ 3 (Stp.mk x1.rule x1.fact x1.piece adj cpj (List.map (hF l) x1.frm)) H_R:=by have q:=hr_R;rw[hsv]at q;rw[e9]at q;exact q
   obtain⟨HO2,ho2,hpo⟩:=rv_ ho ht0 (ht.rest i t0 (Nat.le_refl _) ht0) hoR
   refine u_ (List.Perm.trans (p_ (c_ (c_ (c_ (c_ (e_ (e_ V_)))))) (c_ (c_ (c_ (c_ l_))))) (hpo.append_right _)) (Zz 5 ?_)
   exact y_ ⟨(i+1,(if x1.fact∈ks then ks else ks++[x1.fact]),(if x1.fact∈ks then vs else vs++[(i:Int)]),er1,cr1,(List.set ts i (Stp.mk x1.rule x1.fact x1.piece adj cpj (List.map (hF l) x1.frm))),HO2,sv_F,H_F,sv_S,H_S),hlx1,hE1,hk2,ht.step hx1 ⟨rfl,rfl,rfl,rfl⟩,ho2,hr_F,(by have e9:List.take j x1.frm=Stp.frm x1:=List.take_of_length_le (by omega);rw[e9]at hr_S;exact hr_S)⟩ (by dsimp only;omega) zl (g_ (e_ (c_ (c_ d_))) (g_ (e_ (c_ (c_ d_))) (g_ (e_ d_) (p_ l_ (p_ (c_ l_) F_))))) zh
  obtain⟨hlx2,x2,hx2,hmx2⟩:=zge (show j<List.length x1.frm by omega)
  refine Zz 10 ?_
  refine i_ (X_ f_ o_ rfl rfl (fun v _ h=>G_ (n:=1) D_ (by decide) (by exact (h.2.1 x1 hmx1)) hx2) (by omega) (by first|omega|(simp;done))) rfl ?_
  refine i_ (at_ (ad:=x1.ad) O_ rfl (fun v _ h=>by exact (h.2.1 x1 hmx1)) (t_ D_ hx2 0 _ rfl)) rfl (Zz 3 ?_)
  have hse:(List.set ts i (Stp.mk x1.rule x1.fact x1.piece adj cpj (List.map (hF l) (List.take j x1.frm))))[i]? = some (Stp.mk x1.rule x1.fact x1.piece adj cpj (List.map (hF l) (List.take j x1.frm))):=List.getElem?_set_self hlts
  have hsl:i<List.length (List.set ts i (Stp.mk x1.rule x1.fact x1.piece adj cpj (List.map (hF l) (List.take j x1.frm)))):=by rw[List.length_set];exact hlts
  have hx2b:=hord i x1 hx1 x2 hmx2
  have hx2n:Int.toNat x2<i+1:=by omega
  have hw2:=fsI_hF (l:=l) hx2n hlx1
  have hlw2:Int.toNat x2<List.length (fsI l (i+1)):=(List.getElem?_eq_some_iff.1 hw2).1
  refine oN_ (ι:={y:Nat×Value×Hp×Value×Hp×Option Addr×Nat // aE_ 3 1 y.2.1 (List.length ((List.map (hF l) (List.take j x1.frm))++[(hF l x2)])) (List.flatMap N_ ((List.map (hF l) (List.take j x1.frm))++[(hF l x2)])) y.2.2.1∧aE_ 48 9 y.2.2.2.1 (List.length (List.set ts i (Stp.mk x1.rule x1.fact x1.piece y.2.2.2.2.2.1 y.2.2.2.2.2.2 ((List.map (hF l) (List.take j x1.frm))++[(hF l x2)])))) (List.flatMap Stp.cells (List.set ts i (Stp.mk x1.rule x1.fact x1.piece y.2.2.2.2.2.1 y.2.2.2.2.2.2 ((List.map (hF l) (List.take j x1.frm))++[(hF l x2)])))) y.2.2.2.2.1∧y.2.1=.slice y.2.2.2.2.2.1 (List.length ((List.map (hF l) (List.take j x1.frm))++[hF l x2])) y.2.2.2.2.2.2}) (fun y=>[(2,zp_ b2 0),(3,.int .i64 0),(5,.map (some b3)),(6,sv_F),(7,y.1.2.2.2.1),(37,.slice ad (List.length l) cap),(38,.int .i64 (List.length l:Int)),(39,.int .i64 (i:Int)),(8,.int .i64 (i:Int)),(64,.slice x1.ad (List.length x1.frm) x1.cap),(65,.int .i64 (List.length x1.frm:Int)),(66,.int .i64 (j:Int))]) (fun y=>((b1,.cells #[.slice ad (List.length l) cap] 29 (0,0))::((b2,.cells #[.slice none 0 0] 29 (0,0))::((b3,.map er1 cr1)::((b8,.cells #[.int .i64 x1.rule,.int .i64 (Fc.kind x1.fact),str (Fc.a x1.fact),str (Fc.b x1.fact),str (Fc.r x1.fact),.int .i64 (Fc.lo x1.fact),.int .i64 (Fc.hi x1.fact),.int .i64 x1.piece,.slice x1.ad (List.length x1.frm) x1.cap] 48 (0,0))::((y.1.1,.cells #[.int .i64 (hF l x2)] 3 (0,0))::(H_F++(HO++(y.1.2.2.1++y.1.2.2.2.2.1))))))))) (fun y=>[af_ ad (List.flatMap Stp.cells l),ax_ l]) ?_ ?_
  ·refine ae_ ((b3,.map er1 cr1)::((b8,.cells #[.int .i64 x1.rule,.int .i64 (Fc.kind x1.fact),str (Fc.a x1.fact),str (Fc.b x1.fact),str (Fc.r x1.fact),.int .i64 (Fc.lo x1.fact),.int .i64 (Fc.hi x1.fact),.int .i64 x1.piece,.slice x1.ad (List.length x1.frm) x1.cap] 48 (0,0))::((b2,.cells #[.slice none 0 0] 29 (0,0))::((b1,.cells #[.slice ad (List.length l) cap] 29 (0,0))::(HO++H_F))))) zk ?_
   refine s_ 6 [0,1,2,3,4,5,7,8,9,10] zk zs (Zz 4 ?_)
   refine R_ rfl (ah_ hr_S P_ ap_ rfl rfl (by omega) (by omega)) rfl (Zz 3 ?_)
   refine R_ rfl (ah_ hr_F f_ o_ rfl rfl (by omega) (by omega)) rfl (R_ rfl (av_ hr_F zp O_ rfl (t_ D_ hw2 0 _ rfl)) rfl (cJ_ ?_))
   refine bW_ 6 11 rfl rfl zk ?_ ?_
   ·refine i_ (aY_ (av_ hr_S zp Tryz.isAgg46 rfl (t_ Stp.cells_len hse 8 _ rfl)) (show _=sv_R from hsv.symm)) rfl (Zz 3 ?_)
    refine j_ 11 rfl zk (S_ f_ o_ A_ rfl rfl rfl rfl rfl rfl fun b9=>Zz 2 ?_)
    refine K_ zs (j_ 12 rfl zk (ao_ (news:=List.flatMap N_ [(hF l x2)]) bP_ hr_R rfl rfl zp rfl (by_ 0 rfl) (fun u hu=>ar_ bp_ hu) (by simp only[maxLen];first|omega|(simp;omega)) (by first|omega|(simp;omega)) rfl fun sv8 Hr8 hr8=>?_))
    have hq8:aE_ 3 1 sv8 (List.length ((List.map (hF l) (List.take j x1.frm))++[(hF l x2)])) (List.flatMap N_ ((List.map (hF l) (List.take j x1.frm))++[(hF l x2)])) Hr8:=by rw[List.length_append,List.flatMap_append];exact hr8
    refine Zz 2 ?_
    refine K_ zs (s_ 1 [13,14] zk zs (R_ rfl (ah_ hr_S P_ ap_ rfl rfl (by omega) (by omega)) rfl (Zz 2 ?_)))
    refine j_ 15 rfl zk (u_ (q_ (e_ d_) (q_ (e_ d_) (q_ (e_ d_) (q_ (e_ d_) (ak_ (e_ d_)))))) ?_)
    obtain⟨adn,cpn,hsvn0⟩:=jZ_ hq8
    subst hsvn0
    have hsvn:Value.slice adn (List.length ((List.map (hF l) (List.take j x1.frm))++[(hF l x2)])) cpn=.slice adn (List.length ((List.map (hF l) (List.take j x1.frm))++[(hF l x2)])) cpn:=rfl
    refine bQ_ (k:=(i:Int).toNat*9+8) hr_S zp ik_ rfl rfl (by omega) rfl rfl fun Hr9 hr9=>?_
    have hs9:=(cU_ Stp.cells 9 Stp.cells_len (List.set ts i (Stp.mk x1.rule x1.fact x1.piece adj cpj (List.map (hF l) (List.take j x1.frm)))) i 8 (Stp.mk x1.rule x1.fact x1.piece adj cpj (List.map (hF l) (List.take j x1.frm))) (Stp.mk x1.rule x1.fact x1.piece adn cpn ((List.map (hF l) (List.take j x1.frm))++[(hF l x2)])) ((.slice adn (List.length ((List.map (hF l) (List.take j x1.frm))++[(hF l x2)])) cpn)) hse (by decide) rfl).trans (congrArg _ (List.set_set ..))
    have hq9:aE_ 48 9 sv_S (List.length (List.set ts i (Stp.mk x1.rule x1.fact x1.piece adn cpn ((List.map (hF l) (List.take j x1.frm))++[(hF l x2)])))) (List.flatMap Stp.cells (List.set ts i (Stp.mk x1.rule x1.fact x1.piece adn cpn ((List.map (hF l) (List.take j x1.frm))++[(hF l x2)])))) Hr9:=by rw[← hs9,show List.length (List.set ts i (Stp.mk x1.rule x1.fact x1.piece adn cpn ((List.map (hF l) (List.take j x1.frm))++[(hF l x2)])))=List.length (List.set ts i (Stp.mk x1.rule x1.fact x1.piece adj cpj (List.map (hF l) (List.take j x1.frm)))) from (by rw[List.length_set,List.length_set])];exact hr9
    refine Zz 2 ?_
    refine K_ zs (Zz 2 ?_)
    exact iB_ ⟨(b9,(.slice adn (List.length ((List.map (hF l) (List.take j x1.frm))++[(hF l x2)])) cpn),Hr8,sv_S,Hr9,adn,cpn),hq8,hq9,hsvn⟩ zl zp zf
   refine S_ f_ o_ A_ rfl rfl rfl rfl rfl rfl fun b10=>Zz 2 ?_
   refine K_ zs (j_ 6 rfl zk (i_ (aY_ (av_ hr_S zp Tryz.isAgg46 rfl (t_ Stp.cells_len hse 8 _ rfl)) (show _=sv_R from hsv.symm)) rfl (Zz 2 ?_)))
   refine K_ zs (j_ 12 rfl zk (ao_ (news:=List.flatMap N_ [(hF l x2)]) bP_ hr_R rfl rfl zp rfl (by_ 0 rfl) (fun u hu=>ar_ bp_ hu) (by simp only[maxLen];first|omega|(simp;omega)) (by first|omega|(simp;omega)) rfl fun sv10 Hr10 hr10=>?_))
   have hq10:aE_ 3 1 sv10 (List.length ((List.map (hF l) (List.take j x1.frm))++[(hF l x2)])) (List.flatMap N_ ((List.map (hF l) (List.take j x1.frm))++[(hF l x2)])) Hr10:=by rw[List.length_append,List.flatMap_append];exact hr10
   refine Zz 2 ?_
   refine K_ zs (s_ 1 [13,14] zk zs (R_ rfl (ah_ hr_S P_ ap_ rfl rfl (by omega) (by omega)) rfl (Zz 2 ?_)))
   refine j_ 15 rfl zk (u_ (q_ (e_ d_) (q_ (e_ d_) (q_ (e_ d_) (q_ (e_ d_) (ak_ (e_ d_)))))) ?_)
   obtain⟨adn,cpn,hsvn0⟩:=jZ_ hq10
   subst hsvn0
   have hsvn:Value.slice adn (List.length ((List.map (hF l) (List.take j x1.frm))++[(hF l x2)])) cpn=.slice adn (List.length ((List.map (hF l) (List.take j x1.frm))++[(hF l x2)])) cpn:=rfl
   refine bQ_ (k:=(i:Int).toNat*9+8) hr_S zp ik_ rfl rfl (by omega) rfl rfl fun Hr11 hr11=>?_
   have hs11:=(cU_ Stp.cells 9 Stp.cells_len (List.set ts i (Stp.mk x1.rule x1.fact x1.piece adj cpj (List.map (hF l) (List.take j x1.frm)))) i 8 (Stp.mk x1.rule x1.fact x1.piece adj cpj (List.map (hF l) (List.take j x1.frm))) (Stp.mk x1.rule x1.fact x1.piece adn cpn ((List.map (hF l) (List.take j x1.frm))++[(hF l x2)])) ((.slice adn (List.length ((List.map (hF l) (List.take j x1.frm))++[(hF l x2)])) cpn)) hse (by decide) rfl).trans (congrArg _ (List.set_set ..))
   have hq11:aE_ 48 9 sv_S (List.length (List.set ts i (Stp.mk x1.rule x1.fact x1.piece adn cpn ((List.map (hF l) (List.take j x1.frm))++[(hF l x2)])))) (List.flatMap Stp.cells (List.set ts i (Stp.mk x1.rule x1.fact x1.piece adn cpn ((List.map (hF l) (List.take j x1.frm))++[(hF l x2)])))) Hr11:=by rw[← hs11,show List.length (List.set ts i (Stp.mk x1.rule x1.fact x1.piece adn cpn ((List.map (hF l) (List.take j x1.frm))++[(hF l x2)])))=List.length (List.set ts i (Stp.mk x1.rule x1.fact x1.piece adj cpj (List.map (hF l) (List.take j x1.frm)))) from (by rw[List.length_set,List.length_set])];exact hr11
   refine Zz 2 ?_
   refine K_ zs (Zz 2 ?_)
   exact iB_ ⟨(b10,(.slice adn (List.length ((List.map (hF l) (List.take j x1.frm))++[(hF l x2)])) cpn),Hr10,sv_S,Hr11,adn,cpn),hq10,hq11,hsvn⟩ zl zp zf
  rintro ⟨⟨z16_11,sv_R,H_R,sv_S,H_S,adn,cpn⟩,hr_R,hr_S,hsvn⟩
  dsimp only at hr_R hr_S hsvn ⊢
  refine dC_ [(2,zp_ b2 0),(3,.int .i64 0),(5,.map (some b3)),(6,sv_F),(7,sv_S),(37,.slice ad (List.length l) cap),(38,.int .i64 (List.length l:Int)),(39,.int .i64 (i:Int)),(8,.int .i64 (i:Int)),(64,.slice x1.ad (List.length x1.frm) x1.cap),(65,.int .i64 (List.length x1.frm:Int)),(66,.int .i64 (j:Int))] zl ?_
  refine Zz 6 ?_
  exact y_ ⟨(j+1,adn,cpn,sv_F,H_F,sv_S,H_S,sv_R,H_R),hlx2,(by rw[dm_ hx2];exact hsvn),hr_F,(by rw[dm_ hx2];exact hr_S),(by rw[dm_ hx2];exact hr_R)⟩ (by dsimp only;omega) zl zp zh
 refine Zz 5 ?_
 refine i_ (H_ gZ_ rfl rfl) rfl (Zz 1 ?_)
 refine z_ 0 aT_ rfl rfl rfl rfl rfl rfl (Zz 4 ?_)
 exact retM ⟨([],none,0,ec),(fun q=>absurd (hec2 q) hr1),fun _=>⟨hec.resolve_left hr1,rfl,rfl,rfl⟩⟩ (fun aa v h1 h2 _=>dj_ 0 Tryz.results21 fE_ aT_ rfl rfl rfl rfl aa v h1 h2) m_ (fun v _ h=>by exact⟨.inl rfl,dO_,trivial⟩)
end Go.Proofs.YtkeanlfhghlgiaaGreatDoor
namespace Go.Proofs.YtkeanlfhghlgiaaGreatDoor
open Go Go.Sx Go.Proofs
attribute [local irreducible] Code.wp wpList wpAnyH
open Go.Vs
def rlP (x:Pc):Str:=if x.kind=3∨x.kind=7 then x.r else x.t
def hR_ (p:List Pc) (A:List Str):List Fc :=
  (A.flatMap fun a=>A.map fun b=>C_ a b)++((A.flatMap fun a=>A.flatMap fun b=>p.map fun x=>I_ a (rlP x) b)++(A.flatMap fun a=>p.flatMap fun x=>p.map fun z=>T_ a x.r x.lo z.hi))
theorem gs_ {α β:Type} {f:α→List β} {n:Nat} (h:∀ a,(f a).length=n):∀ l:List α,(l.flatMap f).length=l.length*n
  | []=>by simp
  | a::l=>by rw[List.flatMap_cons,List.length_append,h,gs_ h l,List.length_cons,Nat.succ_mul];omega
theorem qt_ (p:List Pc) (A:List Str):(hR_ p A).length=A.length*A.length+(A.length*(A.length*p.length)+A.length*(p.length*p.length)):=by
  unfold hR_
  rw[List.length_append,List.length_append,gs_ (n:=A.length) (fun a=>List.length_map ..),gs_ (n:=A.length*p.length) (fun a=>gs_ (n:=p.length) (fun b=>List.length_map ..) A),gs_ (n:=p.length*p.length) (fun a=>gs_ (n:=p.length) (fun b=>List.length_map ..) p)]
theorem jp_ {p:List Pc} {A:List Str} {a b:Str} (ha:a∈A) (hb:b∈A):C_ a b∈hR_ p A :=
  List.mem_append_left _ (List.mem_flatMap.2 ⟨a,ha,List.mem_map.2 ⟨b,hb,rfl⟩⟩)
theorem pp_ {p:List Pc} {A:List Str} {a b r:Str} {x:Pc} (ha:a∈A) (hb:b∈A) (hx:x∈p) (hr:r=rlP x):I_ a r b∈hR_ p A :=
  List.mem_append_right _ (List.mem_append_left _ (List.mem_flatMap.2 ⟨a,ha,List.mem_flatMap.2 ⟨b,hb,List.mem_map.2 ⟨x,hx,by rw[hr]⟩⟩⟩))
theorem nR_ {p:List Pc} {A:List Str} {a r:Str} {lo hi:Int} {x z:Pc} (ha:a∈A) (hx:x∈p) (hz:z∈p) (h1:r=x.r) (h2:lo=x.lo) (h3:hi=z.hi):T_ a r lo hi∈hR_ p A :=
  List.mem_append_right _ (List.mem_append_right _ (List.mem_flatMap.2 ⟨a,ha,List.mem_flatMap.2 ⟨x,hx,List.mem_map.2 ⟨z,hz,by rw[h1,h2,h3]⟩⟩⟩))
theorem lW_ {p:List Pc} {A:List Str} {a r:Str} {lo hi:Int} (h:T_ a r lo hi∈hR_ p A):∃ x∈p,∃ z∈p,r=x.r∧lo=x.lo∧hi=z.hi:=by
 unfold hR_ at h
 rcases List.mem_append.1 h with h|h
 ·obtain⟨a',_,h⟩:=List.mem_flatMap.1 h
  obtain⟨b',_,h⟩:=List.mem_map.1 h
  exact absurd (congrArg Fc.kind h) (by simp[C_,T_])
 rcases List.mem_append.1 h with h|h
 ·obtain⟨a',_,h⟩:=List.mem_flatMap.1 h
  obtain⟨b',_,h⟩:=List.mem_flatMap.1 h
  obtain⟨x,_,h⟩:=List.mem_map.1 h
  exact absurd (congrArg Fc.kind h) (by simp[I_,T_])
 obtain⟨a',_,h⟩:=List.mem_flatMap.1 h
 obtain⟨x,hx,h⟩:=List.mem_flatMap.1 h
 obtain⟨z,hz,h⟩:=List.mem_map.1 h
 exact⟨x,hx,z,hz,(congrArg Fc.r h).symm,(congrArg Fc.lo h).symm,(congrArg Fc.hi h).symm⟩
theorem rB_ {p:List Pc} {S:Fc→Prop} (hp:∀ x∈p,x.valid=true) (hS:∀ y,S y→fc_ (atS p) y=true∧y∈hR_ p (atS p)) {y:Fc} (h:fX_ p (atS p) S y):fc_ (atS p) y=true∧y∈hR_ p (atS p):=by
 have hok:=rA_ hp (fun y hy=>(hS y hy).1) h
 refine⟨hok,?_⟩
 cases h with
 | r1 h=>have q:=fo1.1 hok;exact jp_ q.1 q.2
 | r2 h=>have q:=fo1.1 hok;exact jp_ q.1 q.2
 | r10 hx hk h=>have q:=fo2.1 hok;exact pp_ q.1 q.2.1 hx (by unfold rlP;rw[if_pos (.inr hk)])
 | r3 hx hk h=>have q:=fo1.1 hok;exact jp_ q.1 q.2
 | r4 hx hk h h'=>have q:=fo1.1 hok;exact jp_ q.1 q.2
 | r5 hx hk h=>have q:=fo2.1 hok;exact pp_ q.1 q.2.1 hx (by unfold rlP;rw[if_pos (.inl hk)])
 | r6 hx hk h=>have q:=fo2.1 hok;exact pp_ q.1 q.2.1 hx (by unfold rlP;rw[if_neg (by omega)])
 | r7 hx hk h h'=>have q:=fo2.1 hok;exact pp_ q.1 q.2.1 hx (by unfold rlP;rw[if_neg (by omega)])
 | r8 hx hk h h'=>have q:=fo1.1 hok;exact jp_ q.1 q.2
 | r9 h h'=>have q:=fo1.1 hok;exact jp_ q.1 q.2
 | r11 hx hk h=>have q:=fo3.1 hok;exact nR_ q.1 hx hx rfl rfl rfl
 | @r12 a r lo hi lo' hi' h h' hm hl =>
   have q:=fo3.1 hok
   obtain⟨x,hx,z,hz,e1,e2,e3⟩:=lW_ (hS _ h).2
   obtain⟨x',hx',z',hz',e1',e2',e3'⟩:=lW_ (hS _ h').2
   have c1:max lo lo'=lo∨max lo lo'=lo':=by omega
   have c2:min hi hi'=hi∨min hi hi'=hi':=by omega
   rcases c1 with c1|c1<;>rcases c2 with c2|c2
   · exact nR_ q.1 hx hz e1 (c1.trans e2) (c2.trans e3)
   · exact nR_ q.1 hx hz' e1 (c1.trans e2) (c2.trans e3')
   · exact nR_ q.1 hx' hz e1' (c1.trans e2') (c2.trans e3)
   · exact nR_ q.1 hx' hz' e1' (c1.trans e2') (c2.trans e3')
 | r13 h h' hm hl=>have q:=fo1.1 hok;exact jp_ q.1 q.2
 | r14 hx hk h h1 h2=>have q:=fo1.1 hok;exact jp_ q.1 q.2
theorem so_ {p:List Pc} (hp:∀ x∈p,x.valid=true) {y:Fc} (h:Der p (atS p) y):y∈hR_ p (atS p):=(h _ fun _ hy=>rB_ hp (fun _ h=>h) hy).2
theorem ph_ {p:List Pc} (hp:∀ x∈p,x.valid=true) (h14:p.length≤14) {l:List Stp} (hE:Eng p (atS p) l):l.length≤40000:=by
  have h1:=hE.len fun y hy=>so_ hp hy
  rw[qt_]at h1
  have h2:=mE_ p
  have a1:(atS p).length≤44:=by omega
  have b1:(atS p).length*(atS p).length≤44*44:=Nat.mul_le_mul a1 a1
  have b2:(atS p).length*((atS p).length*p.length)≤44*(44*14):=Nat.mul_le_mul a1 (Nat.mul_le_mul a1 h14)
  have b3:(atS p).length*(p.length*p.length)≤44*(14*14):=Nat.mul_le_mul a1 (Nat.mul_le_mul h14 h14)
  omega
def gpI (gp:Nat→Nat) (i:Int):Int:=if i<0 then i else (gp i.toNat:Int)
theorem gK_ {gp:Nat→Nat}:gpI gp (-1)=-1:=rfl
theorem fh_ {gp:Nat→Nat} {k:Nat}:gpI gp (k:Int)=(gp k:Int):=by unfold gpI;rw[if_neg (by omega)];simp
theorem gpI_id (i:Int):gpI id i=i:=by unfold gpI;split<;>simp;omega
theorem st_ {p p':List Pc} {A A':List Str} {l l':List Stp} {g:Int→Int} {gp:Nat→Nat} {r:Int} {f:Fc} {i:Int} {fr:List Int} (hg:∀ (m:Nat) y,(m:Int)∈fr→At l m y→∃ k:Nat,g (m:Int)=k∧At l' k y) (hA:f.a∈A→f.a∈A') (hp:∀ (k:Nat) x,i=(k:Int)→p[k]? = some x→p'[gp k]? = some x)
    (h:Cor p A l r f i fr):Cor p' A' l' r f (gpI gp i) (fr.map g):=by
  cases h with
  | r1 h=>rw[gK_];exact .r1 (hA h)
  | r2 h=>rw[gK_];exact .r2 (hA h)
  | r10 hx hk h=>rw[fh_];exact .r10 (hp _ _ rfl hx) hk (hA h)
  | r3 hx hk h=>obtain⟨k,e,h⟩:=hg _ _ (by simp) h;rw[List.map_cons,e,fh_];exact .r3 (hp _ _ rfl hx) hk h
  | r4 hx hk h h'=>obtain⟨k,e,h⟩:=hg _ _ (by simp) h;obtain⟨k',e',h'⟩:=hg _ _ (by simp) h';rw[List.map_cons,List.map_cons,e,e',fh_];exact .r4 (hp _ _ rfl hx) hk h h'
  | r5 hx hk h=>obtain⟨k,e,h⟩:=hg _ _ (by simp) h;rw[List.map_cons,e,fh_];exact .r5 (hp _ _ rfl hx) hk h
  | r6 hx hk h=>obtain⟨k,e,h⟩:=hg _ _ (by simp) h;rw[List.map_cons,e,fh_];exact .r6 (hp _ _ rfl hx) hk h
  | r7 hx hk h h'=>obtain⟨k,e,h⟩:=hg _ _ (by simp) h;obtain⟨k',e',h'⟩:=hg _ _ (by simp) h';rw[List.map_cons,List.map_cons,e,e',fh_];exact .r7 (hp _ _ rfl hx) hk h h'
  | r8 hx hk h h'=>obtain⟨k,e,h⟩:=hg _ _ (by simp) h;obtain⟨k',e',h'⟩:=hg _ _ (by simp) h';rw[List.map_cons,List.map_cons,e,e',fh_];exact .r8 (hp _ _ rfl hx) hk h h'
  | r9 h h'=>obtain⟨k,e,h⟩:=hg _ _ (by simp) h;obtain⟨k',e',h'⟩:=hg _ _ (by simp) h';rw[List.map_cons,List.map_cons,e,e',gK_];exact .r9 h h'
  | r11 hx hk h=>obtain⟨k,e,h⟩:=hg _ _ (by simp) h;rw[List.map_cons,e,fh_];exact .r11 (hp _ _ rfl hx) hk h
  | r12 h h' hl=>obtain⟨k,e,h⟩:=hg _ _ (by simp) h;obtain⟨k',e',h'⟩:=hg _ _ (by simp) h';rw[List.map_cons,List.map_cons,e,e',gK_];exact .r12 h h' hl
  | r13 h h' hl=>obtain⟨k,e,h⟩:=hg _ _ (by simp) h;obtain⟨k',e',h'⟩:=hg _ _ (by simp) h';rw[List.map_cons,List.map_cons,e,e',gK_];exact .r13 h h' hl
  | r14 hx hk h h1 h2=>obtain⟨k,e,h⟩:=hg _ _ (by simp) h;rw[List.map_cons,e,fh_];exact .r14 (hp _ _ rfl hx) hk h h1 h2
  | r15 h=>obtain⟨k,e,h⟩:=hg _ _ (by simp) h;rw[List.map_cons,e,gK_];exact .r15 h
  | r16 h h1 h2=>obtain⟨k,e,h⟩:=hg _ _ (by simp) h;rw[List.map_cons,e,gK_];exact .r16 h h1 h2
theorem hG_ {α:Type} [DecidableEq α] {l:List α} (h:l.Nodup) {i:Nat} {x:α} (hx:l[i]? = some x):l.idxOf x=i:=by
 obtain⟨hi,rfl⟩:=List.getElem?_eq_some_iff.1 hx
 have h1:l.idxOf l[i]<l.length:=List.idxOf_lt_length_of_mem (List.getElem_mem hi)
 have h2:l[l.idxOf l[i]]=l[i]:=List.getElem_idxOf h1
 have h3:=List.pairwise_iff_getElem.1 h
 by_cases e:l.idxOf l[i]=i
 ·exact e
 by_cases e2:l.idxOf l[i]<i
 ·exact absurd h2 (h3 _ _ h1 hi e2)
 exact absurd h2.symm (h3 _ _ hi h1 (by omega))
theorem fj_ {l:List Stp} (h:(fcs l).Nodup) {i:Nat} {s:Stp} (hs:l[i]? = some s):bd_ l s=i:=hG_ h (by simp[fcs,hs])
theorem hF_nd {l:List Stp} (h:(fcs l).Nodup) {q:Int} (h0:0≤q) (hq:q<l.length):hF l q=q:=by
  have hs:l[q.toNat]? = some (l[q.toNat]'(by omega)):=List.getElem?_eq_getElem (by omega)
  rw[kD_ hs,fj_ h hs];omega
theorem mg_ {O:List Int} (h:O.Pairwise (·<·)) {j:Nat} {x:Int} (hx:O[j]? = some x):pix O x=(j:Int):=by unfold pix;rw[hG_ (ie_ h) hx]
theorem sg_ {O:List Int} (h:O.Pairwise (·<·)) {i j:Nat} {x y:Int} (hx:O[i]? = some x) (hy:O[j]? = some y) (hxy:x<y):i<j:=by
 obtain⟨hi,rfl⟩:=List.getElem?_eq_some_iff.1 hx
 obtain⟨hj,rfl⟩:=List.getElem?_eq_some_iff.1 hy
 by_cases e:i<j
 ·exact e
 by_cases e2:i=j
 ·subst e2;omega
 have:=(List.pairwise_iff_getElem.1 h) j i hj hi (by omega);omega
theorem ke_ {p:List Pc} {A:List Str} {f:Fc} {L:List Stp} (h:PrfL p A f L):∀ (i:Nat) s,L[i]? = some s→∀ q∈s.frm,0≤q∧q<(i:Int):=fun i s hs q hq=>by
  have:=(h.cor i s hs).prem q hq
  have hi:=(List.getElem?_eq_some_iff.1 hs).1
  rw[List.length_take]at this;omega
theorem oQ_ {p:List Pc} {A:List Str} {f:Fc} {L:List Stp} (h:PrfL p A f L):L≠[]:=fun e=>by have:=h.last;rw[e]at this;simp[fcs]at this
theorem iw_ {p:List Pc} {A:List Str} {f:Fc} {L:List Stp} (h:PrfL p A f L):∃ s,L[L.length - 1]? = some s∧s.fact=f:=by
  have:=h.last
  rw[List.getLast?_eq_getElem?,iH_]at this
  simp only[fcs,List.getElem?_map]at this
  cases hs:L[L.length - 1]? with
  | none=>rw[hs]at this;simp at this
  | some s=>rw[hs]at this;exact⟨s,rfl,by simpa using this⟩
structure TrmL (L Y:List Stp):Prop where
  le:Y.length≤L.length
  pcs:∀ y∈Y,∃ s∈L,y.piece=s.piece∧y.rule=s.rule∧y.fact=s.fact∧y.frm.length=s.frm.length
  used:∀ i,i+1<Y.length→∃ (k:Nat) (y:Stp),i<k∧Y[k]? = some y∧(i:Int)∈y.frm
section
variable {p:List Pc} {A:List Str} {f:Fc} {L Y:List Stp} {O:List Int}
theorem ga_ (h:TrimR L Y O) {j:Nat} {y:Stp} (hy:Y[j]? = some y):∃ (n:Nat) (s:Stp),O[j]? = some (n:Int)∧NdS L n∧L[n]? = some s∧y.rule=s.rule∧y.fact=s.fact∧y.piece=s.piece∧y.frm=s.frm.map fun q=>pix O (hF L q):=by
  have hj:=(List.getElem?_eq_some_iff.1 hy).1
  have hO:O[j]? = some (O[j]'(by rw[← h.len];exact hj)):=List.getElem?_eq_getElem _
  obtain⟨n,e,hn⟩:=h.nat _ (List.mem_of_getElem? hO)
  rw[e]at hO
  have hs:L[n]? = some (L[n]'(ib_ hn)):=List.getElem?_eq_getElem _
  exact⟨n,_,hO,hn,hs,h.step j n _ y hO hs hy⟩
theorem jV_ (h:TrimR L Y O) {n:Nat} {s:Stp} (hn:NdS L n) (hs:L[n]? = some s):∃ (j:Nat) (y:Stp),O[j]? = some (n:Int)∧Y[j]? = some y∧y.rule=s.rule∧y.fact=s.fact∧y.piece=s.piece∧y.frm=s.frm.map fun q=>pix O (hF L q):=by
  obtain⟨j,hj⟩:=List.getElem?_of_mem (h.all n hn)
  have hjl:=(List.getElem?_eq_some_iff.1 hj).1
  have hy:Y[j]? = some (Y[j]'(by rw[h.len];exact hjl)):=List.getElem?_eq_getElem _
  exact⟨j,_,hj,hy,h.step j n s _ hj hs hy⟩
theorem kf_ (hP:PrfL p A f L) {n:Nat} {s:Stp} (hn:NdS L n) (hs:L[n]? = some s) {q:Int} (hq:q∈s.frm):hF L q=q∧NdS L q.toNat∧0≤q∧q<n:=by
  have h1:=ke_ hP n s hs q hq
  have hnl:=(List.getElem?_eq_some_iff.1 hs).1
  have ht:L[q.toNat]? = some (L[q.toNat]'(by omega)):=List.getElem?_eq_getElem (by omega)
  have:=NdS.step hn hs hq ht
  rw[fj_ hP.nd ht]at this
  exact⟨hF_nd hP.nd h1.1 (by omega),this,h1⟩
theorem pz_ (hP:PrfL p A f L) (h:TrimR L Y O):PrfL p A f Y:=by
 obtain⟨xl,hxl,hf⟩:=iw_ hP
 have hlast:=NdS.last hxl
 rw[fj_ hP.nd hxl]at hlast
 refine⟨fun j y hy=>?_,?_,?_,fun y hy=>?_⟩
 ·obtain⟨n,s,hO,hn,hs,e1,e2,e3,e4⟩:=ga_ h hy
  rw[e1,e2,e3,e4,← gpI_id s.piece]
  refine st_ (h:=hP.cor n s hs) (fun m y hm hat=>?_) (fun h=>h) (fun k x _ h=>h)
  obtain⟨g1,g2,g3,g4⟩:=kf_ hP hn hs hm
  rw[g1]
  rw[Int.toNat_natCast]at g2
  have hmn:m<n:=by omega
  obtain⟨t,ht,et⟩:=hat
  rw[List.getElem?_take_of_lt hmn]at ht
  obtain⟨k,z,hk,hz,_,z2,_⟩:=jV_ h g2 ht
  exact⟨k,mg_ h.inc hk,z,by rw[List.getElem?_take_of_lt (sg_ h.inc hk hO (by omega))];exact hz,z2.trans et⟩
 ·obtain⟨j,y,hj,hy,_,y2,_⟩:=jV_ h hlast hxl
  have hjl:=(List.getElem?_eq_some_iff.1 hj).1
  have e:j=Y.length - 1:=by
    rw[h.len]
    have hb:O[O.length - 1]? = some (O[O.length - 1]'(by omega)):=List.getElem?_eq_getElem (by omega)
    obtain⟨n,en,hn⟩:=h.nat _ (List.mem_of_getElem? hb)
    have:=ib_ hn
    by_cases e:j<O.length - 1
    · have:=(List.pairwise_iff_getElem.1 h.inc) j (O.length - 1) hjl (by omega) e
      have ej:=(List.getElem?_eq_some_iff.1 hj).2
      omega
    · omega
  subst e
  rw[List.getLast?_eq_getElem?,iH_]
  simp only[fcs,List.getElem?_map,hy,Option.map_some,y2,hf]
 ·refine List.pairwise_iff_getElem.2 fun i j hi hj hij=>?_
  rw[iH_]at hi hj
  obtain⟨n,s,hO,hn,hs,_,e2,_⟩:=ga_ h (List.getElem?_eq_getElem hi)
  obtain⟨m,t,hO',hm,ht,_,e2',_⟩:=ga_ h (List.getElem?_eq_getElem hj)
  simp only[fcs,List.getElem_map]
  rw[e2,e2']
  intro e
  have a1:=fj_ hP.nd hs
  have a2:=fj_ hP.nd ht
  unfold bd_ at a1 a2
  rw[e,a2]at a1
  subst a1
  have b1:=hG_ (ie_ h.inc) hO
  have b2:=hG_ (ie_ h.inc) hO'
  omega
 obtain⟨j,hj⟩:=List.getElem?_of_mem hy
 obtain⟨n,s,_,_,hs,e1,e2,_⟩:=ga_ h hj
 rw[e1,e2];exact hP.low s (List.mem_of_getElem? hs)
theorem py_ (hP:PrfL p A f L) (h:TrimR L Y O):TrmL L Y:=by
 obtain⟨xl,hxl,hf⟩:=iw_ hP
 refine⟨?_,fun y hy=>?_,fun i hi=>?_⟩
 ·have h2:∀ x∈O,x∈(List.range L.length).map Int.ofNat:=fun x hx=>by
    obtain⟨n,e,hn⟩:=h.nat x hx
    exact List.mem_map.2 ⟨n,List.mem_range.2 (ib_ hn),e.symm⟩
  have:=eT_ (ie_ h.inc) h2
  rw[h.len];simpa using this
 ·obtain⟨j,hj⟩:=List.getElem?_of_mem hy
  obtain⟨n,s,_,_,hs,e1,e2,e3,e4⟩:=ga_ h hj
  exact⟨s,List.mem_of_getElem? hs,e3,e1,e2,by rw[e4,List.length_map]⟩
 obtain⟨n,s,hO,hn,hs,_⟩:=ga_ h (List.getElem?_eq_getElem (show i<Y.length by omega))
 cases hn with
 | @last s' hl =>
   exfalso
   rw[hxl]at hl;cases hl
   rw[fj_ hP.nd hxl]at hO
   rw[h.len]at hi
   have hb:O[i+1]? = some (O[i+1]'hi):=List.getElem?_eq_getElem _
   obtain⟨m,em,hm⟩:=h.nat _ (List.mem_of_getElem? hb)
   have:=ib_ hm
   have h3:=(List.pairwise_iff_getElem.1 h.inc) i (i+1) (by omega) hi (by omega)
   have ej:=(List.getElem?_eq_some_iff.1 hO).2
   omega
 | @step m s' t q hm hs' hq ht =>
   obtain⟨g1,g2,g3,g4⟩:=kf_ hP hm hs' hq
   rw[fj_ hP.nd ht]at hO
   obtain⟨k,y,hk,hy,_,_,_,y4⟩:=jV_ h hm hs'
   refine⟨k,y,sg_ h.inc hO hk (by omega),hy,?_⟩
   rw[y4]
   refine List.mem_map.2 ⟨q,hq,?_⟩
   rw[g1,show q=((q.toNat:Nat):Int) by omega]
   exact mg_ h.inc hO
theorem nZ_ (hP:PrfL p A f L) (h:gS_ L Y):PrfL p A f Y:=by obtain⟨O,h⟩:=h;exact pz_ hP h
theorem jW_ (hP:PrfL p A f L) (h:gS_ L Y):TrmL L Y:=by obtain⟨O,h⟩:=h;exact py_ hP h
end
def fO_ (p:List Pc) (f:Fc) (bu:Int) (Y:List Stp) (e:Int):Prop :=
  if wfB f=false then e=1∧Y=[]
  else ∃ c e0,fl_ p bu c e0∧(if e0=0 then (if oC_ c.facts f=false then e=110∧Y=[] else e=0∧∃ L,PrfL p (atS p) f L∧L.length≤40001∧gS_ L Y) else e=e0∧Y=[])
end Go.Proofs.YtkeanlfhghlgiaaGreatDoor
namespace Go.Proofs.YtkeanlfhghlgiaaGreatDoor
open Go Go.Sx Go.Proofs
attribute [local irreducible] Code.wp wpList wpAnyH
open Go.Vs
theorem rG_ {v:Vw} {Hq:Hp} (h:am_ (Hq.reverse.map fun p=>eu_ p.1 p.2) v):∀ p∈Hq,v.im p.1∧v.w.heap[p.1]? = some p.2:=by
 have:∀ (l:Hp),am_ (l.map fun p=>eu_ p.1 p.2) v→∀ p∈l,v.im p.1∧v.w.heap[p.1]? = some p.2:=by
   intro l
   induction l with
   | nil=>intro _ p hp;simp at hp
   | cons a l ih =>
     intro hl p hp
     rcases List.mem_cons.1 hp with rfl|hp
     · exact hl.1
     · exact ih hl.2 p hp
 exact fun p hp=>this _ h p (by simpa using hp)
theorem rm_ {p:List Pc} {A:List Str} {f:Fc} {L:List Stp} (h:PrfL p A f L):∀ s∈L,s.frm.length≤2:=fun s hs=>by
  obtain⟨i,hi⟩:=List.getElem?_of_mem hs
  exact (h.cor i s hi).two
theorem sP_ {f:Fc} (h:wfB f=true):f.kind=3→f=T_ f.a f.r f.lo f.hi:=fun hk=>by
 rcases ((lY_ f).1 h).2 with h|h|h
 ·omega
 ·omega
 exact h.2.2.1
theorem derB_l {F:List Fc} {l:List Stp} {f:Fc} (hF:∀ y∈F,y∈fcs l) (hd:oC_ F f=true):ui_ l f:=by
 unfold oC_ at hd
 obtain⟨x,hx,h⟩:=List.any_eq_true.1 hd
 simp only[Bool.or_eq_true,Bool.and_eq_true,decide_eq_true_eq]at h
 rcases h with (rfl|rfl)|⟨⟨e1,e2⟩,h3,h4⟩
 ·exact .inl (hF _ hx)
 ·exact .inr (.inl (hF _ hx))
 exact .inr (.inr ⟨by rw[e1];rfl,x,hF _ hx,by rw[e2];rfl,by rw[e2];rfl,by rw[e2];rfl,h3,h4⟩)
theorem tL_ {p:List Pc} {bu e:Int} {c:Cl} {l:List Stp} {x:Jx} {f:Fc} (hca:Cl.atoms c=atS p) (hA:fl_ p bu c e) (he:e=0) (hv:∀ z∈p,z.vok) (hL:LoopP p c.atoms l.length l x) (hd:oC_ c.facts f=true):ui_ l f:=by
  subst he
  obtain⟨_,_,_,_,_,h⟩:=hA.good
  exact derB_l (fun y hy=>(hL.done hv y).1 (by rw[hca];exact (h.2.1 y).1 hy)) hd
theorem mw_ (p:List Pc) (pad:Option Addr) (pcap:Nat) (f:Fc) (bu:Int) (hsm:∀ x∈p,x.sm) (h14:p.length≤14):Tri Tryz.prog 12 #[.slice pad (List.length p) pcap,Fc.val f,.int .i64 bu] [] [af_ pad (List.flatMap Pc.cells p),jt_] (fun y:{y:List Stp×Option Addr×Nat×Int // fO_ p f bu y.1 y.2.2.2∧y.1.length≤65536∧y.1.length≤y.2.2.1∧y.2.2.1≤maxLen∧(y.2.1=none→y.2.2.1=0)}=>.tuple #[.agg #[.slice y.1.2.1 y.1.1.length y.1.2.2.1],.int .i64 y.1.2.2.2]) (fun _=>[]) (fun y=>[af_ y.1.2.1 (List.flatMap Stp.cells y.1.1),ax_ y.1.1]):=by
 refine w_ Tryz.func12 rfl rfl Tryz.ntmps12 rfl fun v0=>?_
 refine Zz 2 ?_
 refine as_ rfl rfl fun b1=>J_ cp_ rfl fun b2=>Zz 7 ?_
 refine br_ (isWf_c f) rfl m_ zt rfl fun r1 hr1=>i_ (bt_ rfl) rfl (Zz 2 ?_)
 cases r1
 ·refine Zz 3 ?_
  refine i_ (H_ gZ_ rfl rfl) rfl (z_ 0 aT_ rfl rfl rfl rfl rfl rfl (Zz 4 ?_))
  exact pK_ ⟨([],none,0,1),by unfold fO_;rw[if_pos hr1];exact⟨rfl,rfl⟩,by simp,Nat.le_refl _,Nat.zero_le _,fun _=>rfl⟩ (fun aa v h1 h2 _=>dj_ 0 Tryz.results12 fE_ aT_ rfl rfl rfl rfl aa v h1 h2) m_ (fun v _ h=>by exact⟨.inl rfl,dO_,trivial⟩)
 refine Zz 7 ?_
 refine n_ (all_c p pad pcap bu hsm (by omega)) rfl m_ zf rfl fun⟨⟨c1,e1⟩,hA1⟩=>?_
 dsimp only
 dsimp only at hA1
 have hcl1:=hA1.len
 refine Zz 3 ?_
 refine J_ Tryz.zeroValue39 rfl fun b3=>z_ 0 aP_ rfl rfl rfl rfl rfl rfl (Zi 7 (fun hr2=>?_) fun hr2=>?_)
 ·have hgd:fl_ p bu c1 0:=by have q:=hA1;rwa [hr2]at q
  obtain⟨hck,_,_,_,hca,_⟩:=hgd.good
  have hpv:=jo_ hck
  have hvk:∀ z∈p,z.vok:=fun z hz=>hz_ (hpv z hz)
  have hB:∀ l,Eng p c1.atoms l→l.length≤65536:=fun l hl=>by rw[hca]at hl;have:=ph_ hpv h14 hl;omega
  refine Zz 10 ?_
  refine br_ (der_c c1 f (by omega)) rfl m_ zf rfl fun r3 hr3=>i_ (bt_ rfl) rfl (Zz 2 ?_)
  cases r3
  ·refine Zz 3 ?_
   refine i_ (H_ gZ_ rfl rfl) rfl (z_ 1 aT_ rfl rfl rfl rfl rfl rfl (Zz 4 ?_))
   exact pK_ ⟨([],none,0,110),by unfold fO_;rw[if_neg (by simp[hr1])];exact⟨c1,e1,hA1,by rw[if_pos hr2,if_pos hr3];exact⟨rfl,rfl⟩⟩,by simp,Nat.le_refl _,Nat.zero_le _,fun _=>rfl⟩ (fun aa v h1 h2 _=>dj_ 1 Tryz.results12 fE_ aT_ rfl rfl rfl rfl aa v h1 h2) m_ (fun v _ h=>by exact⟨.inl rfl,dO_,trivial⟩)
  refine Zz 6 ?_
  refine n_ (mi_ p pad pcap (by omega)) rfl m_ zf rfl fun⟨⟨B,fm,Hpm⟩,⟨hfd,hmm⟩,ebp,ebc⟩=>?_
  dsimp only
  dsimp only at hfd hmm ebp ebc
  subst ebp
  subst ebc
  dsimp only[PNew.own]
  obtain⟨afm,hafm⟩:=aS_.lent (P:=Tryz.prog) (kt:=111) eJ_ hmm
  refine iA_ Hpm (c_ (c_ (c_ (c_ (c_ (c_ (c_ (c_ l_)))))))) (gj_ (Γ':=mlF Tryz.prog 111 Ky.val N_ B.pb fm afm::[af_ c1.aad (List.flatMap aV_ c1.atoms),af_ c1.fad (List.flatMap Fc.cells c1.facts),af_ B.pad (List.flatMap Pc.cells p),jt_]) (fun v _ hv=>?_) ?_)
  ·rw[eB_]at hv
   exact⟨hafm v (rG_ hv.1),hv.2⟩
  refine Zz 7 ?_
  refine i_ (bx_ 8 Tryz.isAgg36 rfl rfl rfl) rfl (n_ (qk_ B p c1.atoms c1.aad c1.acap fm afm hvk hfd (by omega) ⟨.slice none 0 0,#[],0,[]⟩ ⟨aE_.nil _ _,IntE.nil⟩ hB (by omega) [(B.ab,.map #[] 0)] [(B.ub,.map #[] 0)] [(B.ob,.map #[] 0)] [(B.ib,.map #[] 0)] [(B.rb,.map #[] 0)] [(B.sb,.map #[] 0)] (aS_.nil _ _) (aS_.nil _ _) (aS_.nil _ _) (aS_.nil _ _) (aS_.nil _ _) (aS_.nil _ _)) rfl zp (fun v _ h=>by exact⟨dO_,h.2.2.2.1,h.1,h.2.1,trivial⟩) rfl fun⟨⟨⟨l,x⟩,z,ih⟩,hS,hL,hJ⟩=>?_)
  dsimp only
  simp only[List.cons_append,List.append_assoc,List.nil_append]
  dsimp only at hS hL hJ
  refine Zz 2 ?_
  refine u_ (q_ d_ (q_ d_ (q_ (e_ (e_ (e_ (e_ (e_ (e_ (e_ d_))))))) (q_ (e_ (e_ (e_ (e_ (e_ (e_ (e_ d_))))))) (ak_ (e_ (e_ (e_ (e_ (e_ (e_ V_))))))))))) (Zz 4 ?_)
  refine n_ (nL_ B p c1.atoms hvk f l x z.sv z.es z.c z.h hS.1 hS.2 hL hB (tL_ hca hA1 hr2 hvk hL hr3) (sP_ hr1) ih.r hJ.2.2.2.2.1) rfl zp zf rfl fun⟨⟨L,lad,lcap⟩,hP,hLl,hLc,hLm,hLz⟩=>?_
  dsimp only
  dsimp only at hP hLl hLc hLm hLz
  rw[hca]at hP
  have hl40:=ph_ hpv h14 (hca▸hL.eng)
  have hLo:en_ L:=⟨oQ_ hP,ke_ hP⟩
  refine i_ (H_ gZ_ rfl rfl) rfl (n_ (nY_ L lad lcap (by omega) (fun s hs=>Nat.le_trans (rm_ hP s hs) (by decide))) rfl m_ zf rfl fun⟨⟨Y,yad,ycap,yE⟩,hT1,hT2⟩=>?_)
  dsimp only
  dsimp only at hT1 hT2
  obtain⟨hy0,hTi,hYl,hYc,hYm,hYz⟩:=hT1 hLo
  have hYL:=(jW_ hP hTi).le
  refine Zz 2 ?_
  refine z_ 1 aT_ rfl rfl rfl rfl rfl rfl (Zz 4 ?_)
  exact pK_ ⟨(Y,yad,ycap,yE),by unfold fO_;rw[if_neg (by simp[hr1])];exact⟨c1,e1,hA1,by rw[if_pos hr2,if_neg (by simp[hr3])];exact⟨hy0,L,hP,by omega,hTi⟩⟩,by dsimp only;omega,hYc,hYm,hYz⟩ (fun aa v h1 h2 _=>dj_ 1 Tryz.results12 fE_ aT_ rfl rfl rfl rfl aa v h1 h2) m_ zf
 refine Zz 5 ?_
 refine i_ (H_ gZ_ rfl rfl) rfl (Zz 1 ?_)
 refine z_ 1 aT_ rfl rfl rfl rfl rfl rfl (Zz 4 ?_)
 exact pK_ ⟨([],none,0,e1),by unfold fO_;rw[if_neg (by simp[hr1])];exact⟨c1,e1,hA1,by rw[if_neg hr2];exact⟨rfl,rfl⟩⟩,by simp,Nat.le_refl _,Nat.zero_le _,fun _=>rfl⟩ (fun aa v h1 h2 _=>dj_ 1 Tryz.results12 fE_ aT_ rfl rfl rfl rfl aa v h1 h2) m_ (fun v _ h=>by exact⟨.inl rfl,dO_,trivial⟩)
end Go.Proofs.YtkeanlfhghlgiaaGreatDoor
namespace Go.Proofs.YtkeanlfhghlgiaaGreatDoor
open Go Go.Sx Go.Proofs
attribute [local irreducible] Code.wp wpList wpAnyH
open Go.Vs Go.ChangeShapes Go.WideShapes Go.ChangeAt Go.RowKit
structure Tys2 (P:Program) (tI tS tSs tF tFs tK:TypeId):Prop where
  f:∃ fs,P.underlying tF=some (.struct fs)∧fs.toList.map (fun f=>(f.type,f.offset))=[(tI,0),(tS,1),(tS,2),(tS,3),(tI,4),(tI,5)]
  fs:P.underlying tFs=some (.slice tF)
  k:∃ fs,P.underlying tK=some (.struct fs)∧fs.toList.map (fun f=>(f.type,f.offset))=[(tSs,0),(tFs,1)]
  cf:P.cellsOf tF=6
  cfs:P.cellsOf tFs=1
  ck:P.cellsOf tK=2
  bf:P.bytesOf tF=72
structure bigF (f:Fc):Prop where
  a:f.a.length≤140737488351232
  b:f.b.length≤140737488351232
  r:f.r.length≤140737488351232
section
variable {H:Type} {enc:TypeId×Value→H} {P:Program} {W:World} {tI tB tS tSs tC tCs tA tAs tP tPs tF tFs tK:TypeId} (X:Tys P tI tB tS tSs tC tCs tA tAs tP tPs) (Z:Tys2 P tI tS tSs tF tFs tK)
include X Z
theorem fc_of {n:Nat} {cs:List Value} {x:DataW H×List MemPlace} (h:DataW.trod enc P W 0 (fun _=>true) true n tF cs=some x) (hw:wok (x.1.weights P tF)):∃ f:Fc,cs=f.cells∧bigF f:=by
  obtain⟨fs,hu,hL⟩:=Z.f
  obtain⟨xs,m,hn,hx,hl,hlen,hf,hwe⟩:=fields_of hu hL h
  rw[hwe]at hw
  match xs,hlen with
  | [x0,x1,x2,x3,x4,x5],_ =>
  simp only[List.map_cons,List.map_nil,DataW.weightsEach,eh_]at hw
  have f0:=hf 0 _ rfl;have f1:=hf 1 _ rfl;have f2:=hf 2 _ rfl;have f3:=hf 3 _ rfl;have f4:=hf 4 _ rfl;have f5:=hf 5 _ rfl
  simp only[List.getElem?_cons_zero,List.getElem?_cons_succ,X.ci,X.cs1]at f0 f1 f2 f3 f4 f5
  obtain⟨k,e0,_,_⟩:=fV_ X f0
  obtain⟨a,e1,n1⟩:=Go.Vs.str_of X f1 hw.2.1
  obtain⟨b,e2,n2⟩:=Go.Vs.str_of X f2 hw.2.2.1
  obtain⟨r,e3,n3⟩:=Go.Vs.str_of X f3 hw.2.2.2.1
  obtain⟨lo,e4,_,_⟩:=fV_ X f4
  obtain⟨hi,e5,_,_⟩:=fV_ X f5
  rw[Z.cf]at hl
  match cs,hl with
  | [c0,c1,c2,c3,c4,c5],_ =>
  simp only[List.drop_succ_cons,List.drop_zero,List.take_succ_cons,List.take_zero,List.cons.injEq,and_true]at e0 e1 e2 e3 e4 e5
  subst e0 e1 e2 e3 e4 e5
  exact⟨⟨k,a,b,r,lo,hi⟩,rfl,n1,n2,n3⟩
variable {base:Nat} {v:Value} {d:DataW H} {ps:List MemPlace}
end
end Go.Proofs.YtkeanlfhghlgiaaGreatDoor
namespace Go.Proofs.YtkeanlfhghlgiaaGreatDoor
open Go Go.Sx Go.Proofs
attribute [local irreducible] Code.wp wpList wpAnyH
open Go.Vs Go.ChangeShapes Go.WideShapes Go.ChangeAt Go.RowKit
theorem own:ownKnob Tryz.prog.godebug=none:=by kernel_rfl
def kw_ : List (String × DataW Unit) := [("unicode/utf8.acceptRanges", Rows.laid_unicode_utf8_acceptRanges), ("veilstone/normal.uses", Rows.laid_veilstone_normal_uses), ("unicode/utf8.first", Rows.laid_unicode_utf8_first)]
theorem kids:Kids Tryz.prog (·<Tryz.prog.types.size):=kids_rows (by kernel_rfl) (by kernel_rfl)
theorem full:∀ t e,t<Tryz.prog.types.size→Tryz.prog.underlying t=some (.slice e)→0<Tryz.prog.cellsOf e:=slices_full_of _ (by kernel_rfl)
theorem rM_:Tryz.prog.types.size=232:=by kernel_rfl
theorem tysX:Tys Tryz.prog 3 4 9 36 0 0 0 0 52 22 where
  i:=bw_
  b:=Tryz.underlying4
  s:=aF_
  ss:=lk_
  p:=⟨_,lj_,rfl⟩
  ps:=Tryz.underlying22
  ci:=by kernel_rfl
  cb:=by kernel_rfl
  cs1:=by kernel_rfl
  css:=by kernel_rfl
  cp:=by kernel_rfl
  bs:=by kernel_rfl
  bp:=by kernel_rfl
theorem js_ {W:World} (h:laidMetH Tryz.prog kw_ W):∃ T fz,W.heap[0]? = some (.cells (gH_ (H:=Unit) Rows.laid_veilstone_normal_uses).toArray T fz):=by
  rw[MakeChecks.laidMetH_plain _ _ _ zk]at h
  exact qL_ kids (name := "veilstone/normal.uses") h (by simp [kw_]) (g := 0) (t := 141) zk zk (by rw [rM_]; decide) (m := 4) zk
theorem te_ {W:World} {g:Nat} {l:List Value} {d:List Value} (h:∃ T fz,W.heap[g]? = some (.cells l.toArray T fz)) (e:l=d):bv_ (vw W) (some ⟨g,0,none⟩) d:=by
  obtain⟨T,fz,h⟩:=h
  subst e
  exact .inr ⟨g,0,_,T,fz,rfl,(Array.getElem?_eq_some_iff.1 h).1,h,fun j x hj=>by rw[Nat.zero_add];simpa using hj⟩
theorem sV_ {W:World} (h:laidMetH Tryz.prog kw_ W):jt_.p (vw W):=te_ (js_ h) (by kernel_rfl)
theorem tysZ:Tys2 Tryz.prog 3 9 36 24 37 39 where
  f:=⟨_,ll_,rfl⟩
  fs:=Tryz.underlying37
  k:=⟨_,Tryz.underlying39,rfl⟩
  cf:=by kernel_rfl
  cfs:=by kernel_rfl
  ck:=by kernel_rfl
  bf:=by kernel_rfl
end Go.Proofs.YtkeanlfhghlgiaaGreatDoor
namespace Go.Proofs.YtkeanlfhghlgiaaGreatDoor
open Go Go.Sx Go.Proofs
attribute [local irreducible] Code.wp wpList wpAnyH
open Go.Vs Go.ChangeShapes Go.WideShapes Go.ChangeAt Go.RowKit
structure Tys4 (P:Program) (tI tF tIs tX tXs tQ:TypeId):Prop where
  x:∃ fs,P.underlying tX=some (.struct fs)∧fs.toList.map (fun f=>(f.type,f.offset))=[(tI,0),(tF,1),(tI,7),(tIs,8)]
  xs:P.underlying tXs=some (.slice tX)
  is:P.underlying tIs=some (.slice tI)
  q:∃ fs,P.underlying tQ=some (.struct fs)∧fs.toList.map (fun f=>(f.type,f.offset))=[(tXs,0)]
  cis:P.cellsOf tIs=1
  cx:P.cellsOf tX=9
  cxs:P.cellsOf tXs=1
  cq:P.cellsOf tQ=1
  bi:P.bytesOf tI=8
  bx:P.bytesOf tX=112
structure bigS (W:World) (s:Stp):Prop where
  row:bv_ (vw W) s.ad (s.frm.flatMap N_)
  fact:bigF s.fact
  le:s.frm.length≤s.cap
  mx:s.cap≤17592186044416
section
variable {H:Type} {enc:TypeId×Value→H} {P:Program} {W:World} {tI tB tS tSs tC tCs tA tAs tP tPs tF tFs tK tIs tX tXs tQ:TypeId} (X:Tys P tI tB tS tSs tC tCs tA tAs tP tPs) (Z:Tys2 P tI tS tSs tF tFs tK) (Y:Tys4 P tI tF tIs tX tXs tQ)
include X Y
theorem sc_ {n:Nat} {cs:List Value} {x:DataW H×List MemPlace} (h:DataW.trod enc P W 0 (fun _=>true) true n tIs cs=some x) (hw:wok (x.1.weights P tIs)) :
    ∃ (l:List Int) (ad:Option Addr) (cap:Nat),cs=[.slice ad l.length cap]∧bv_ (vw W) ad (l.flatMap N_)∧l.length≤cap∧cap≤17592186044416:=by
  obtain⟨l,ad,cap,e,hrow,hq,hlc,hcap⟩:=md_ N_ 1 D_ (by decide) (fun y:Int=>-9223372036854775808≤y∧y≤9223372036854775807) Y.is X.ci (fun m' _ cs' y hy _=>fV_ X hy) h hw
  rw[Y.bi]at hcap;simp only[reachBytes]at hcap
  exact⟨l,ad,cap,e,hrow,hlc,by omega⟩
include Z
theorem stp_of {n:Nat} {cs:List Value} {x:DataW H×List MemPlace} (h:DataW.trod enc P W 0 (fun _=>true) true n tX cs=some x) (hw:wok (x.1.weights P tX)):∃ s:Stp,cs=s.cells∧bigS W s:=by
  obtain⟨fs,hu,hL⟩:=Y.x
  obtain⟨xs,m,hn,hx,hl,hlen,hf,hwe⟩:=fields_of hu hL h
  rw[hwe]at hw
  match xs,hlen with
  | [x0,x1,x2,x3],_ =>
  simp only[List.map_cons,List.map_nil,DataW.weightsEach,eh_]at hw
  have f0:=hf 0 _ rfl;have f1:=hf 1 _ rfl;have f2:=hf 2 _ rfl;have f3:=hf 3 _ rfl
  simp only[List.getElem?_cons_zero,List.getElem?_cons_succ,X.ci,Z.cf,Y.cis]at f0 f1 f2 f3
  obtain⟨k,e0,_,_⟩:=fV_ X f0
  obtain⟨f,e1,bf⟩:=fc_of X Z f1 hw.2.1
  obtain⟨pc,e2,_,_⟩:=fV_ X f2
  obtain⟨l,ad,cap,e3,r3,l3,m3⟩:=sc_ X Y f3 hw.2.2.2.1
  rw[Y.cx]at hl
  match cs,hl with
  | [c0,c1,c2,c3,c4,c5,c6,c7,c8],_ =>
  simp only[List.drop_succ_cons,List.drop_zero,List.take_succ_cons,List.take_zero,List.cons.injEq,and_true,Fc.cells]at e0 e1 e2 e3
  refine⟨⟨k,f,pc,ad,cap,l⟩,?_,r3,bf,l3,m3⟩
  obtain⟨a1,a2,a3,a4,a5,a6⟩:=e1
  rw[e0,a1,a2,a3,a4,a5,a6,e2,e3];rfl
theorem stps_of {n:Nat} {cs:List Value} {x:DataW H×List MemPlace} (h:DataW.trod enc P W 0 (fun _=>true) true n tXs cs=some x) (hw:wok (x.1.weights P tXs)) :
    ∃ (l:List Stp) (ad:Option Addr) (cap:Nat),cs=[.slice ad l.length cap]∧bv_ (vw W) ad (l.flatMap Stp.cells)∧(∀ y∈l,bigS W y)∧l.length≤cap∧cap≤1256584717424:=by
  have:Inhabited Stp:=⟨Stp.zero⟩
  obtain⟨l,ad,cap,e,hrow,hq,hlc,hcap⟩:=md_ Stp.cells 9 Stp.cells_len (by decide) (bigS W) Y.xs Y.cx (fun m' _ cs' y hy hwy=>stp_of X Z Y hy hwy) h hw
  rw[Y.bx]at hcap;simp only[reachBytes]at hcap
  exact⟨l,ad,cap,e,hrow,hq,hlc,by omega⟩
variable {base:Nat} {v:Value} {d:DataW H} {ps:List MemPlace}
theorem ue_ (hval:Value.okWide P W .any base tQ v) (h:DataW.Trod enc P W 0 (fun _=>true) true tQ v d ps) (hw:wok (d.weights P tQ)) :
    ∃ (l:List Stp) (ad:Option Addr) (cap:Nat),v=.agg #[.slice ad l.length cap]∧bv_ (vw W) ad (l.flatMap Stp.cells)∧(∀ y∈l,bigS W y)∧l.length≤cap∧cap≤1256584717424:=by
  obtain⟨fs,hu,hL⟩:=Y.q
  unfold Value.okWide at hval
  rw[hu]at hval
  obtain⟨cs,rfl,_⟩:=hval
  obtain⟨n,hn⟩:=h
  simp only[Value.cells]at hn
  obtain⟨xs,m,hn2,hx,hl,hlen,hf,hwe⟩:=fields_of hu hL hn
  rw[hwe]at hw
  match xs,hlen with
  | [x0],_ =>
  simp only[List.map_cons,List.map_nil,DataW.weightsEach,eh_]at hw
  have f0:=hf 0 _ rfl
  simp only[List.getElem?_cons_zero,Y.cxs]at f0
  obtain⟨l,ad,cap,e0,h1⟩:=stps_of X Z Y f0 hw.1
  rw[Y.cq]at hl
  refine⟨l,ad,cap,?_,h1⟩
  rw[List.drop_zero,List.take_of_length_le (by omega)]at e0
  rw[← e0]
end
theorem tysQ:Tys4 Tryz.prog 3 24 46 48 27 29 where
  x:=⟨_,Tryz.underlying48,rfl⟩
  xs:=Tryz.underlying27
  is:=fd_
  q:=⟨_,Tryz.underlying29,rfl⟩
  cis:=by kernel_rfl
  cx:=by kernel_rfl
  cxs:=by kernel_rfl
  cq:=by kernel_rfl
  bi:=by kernel_rfl
  bx:=by kernel_rfl
end Go.Proofs.YtkeanlfhghlgiaaGreatDoor
