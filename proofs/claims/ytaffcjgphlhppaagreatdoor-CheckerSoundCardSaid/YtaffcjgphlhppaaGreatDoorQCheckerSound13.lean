/-
  Part of the proof of the law CheckerSound over this seat: the small logic, the data, the contracts of functions (no condition).
-/
import Derived.Test.YtaffcjgphlhppaaGreatDoorQCheckerSound12
import Derived.Test.YtaffcjgphlhppaaGreatDoorQCheckerSound11
import Derived.Test.YtaffcjgphlhppaaGreatDoorQCheckerSound7
import Derived.Test.YtaffcjgphlhppaaGreatDoorQCheckerSound8
import Derived.Test.YtaffcjgphlhppaaGreatDoorQCheckerSound6
import Derived.Test.YtaffcjgphlhppaaGreatDoorQCheckerSound5
set_option linter.unusedVariables false
set_option linter.unusedSimpArgs false
set_option linter.unusedSectionVars false
set_option maxHeartbeats 1000000
namespace Go.Proofs.YtaffcjgphlhppaaGreatDoor
open Go Go.Sx Go.Proofs
attribute [local irreducible] Code.wp wpList wpAnyH
open Go.Vs
theorem SrtS.nodup {l:List Str} (h:SrtS l):l.Nodup:=by
  unfold List.Nodup
  refine List.Pairwise.imp ?_ h
  intro a b hab e
  exact oW_ b (e▸hab)
def qm_ (fs:List Fc) (f:Fc):Bool:=fs.any fun x=>(decide (x=f)||decide (x=M_ f.a [33]))||((decide (f=D_ f.a f.r f.lo f.hi)&&decide (x=D_ f.a f.r x.lo x.hi))&&(decide (f.lo≤x.lo)&&decide (x.hi≤f.hi)))
def kT_ (f x:Fc):Bool:=(decide (x=f)||decide (x=M_ f.a [33]))||((decide (f=D_ f.a f.r f.lo f.hi)&&decide (x=D_ f.a f.r x.lo x.hi))&&(decide (f.lo≤x.lo)&&decide (x.hi≤f.hi)))
theorem any_no {α:Type} {p:α→Bool} {l:List α} {j:Nat} {x:α} (h:∀ y∈l.take j,p y=false) (hx:l[j]? = some x) (hp:p x=false):∀ y∈l.take (j+1),p y=false:=fun y hy=>by
 rw[List.take_add_one,hx]at hy
 simp only[Option.toList_some,List.mem_append,List.mem_singleton]at hy
 rcases hy with hy|rfl
 ·exact h y hy
 exact hp
theorem ps_ {α:Type} {p:α→Bool} {l:List α} {j:Nat} (h:∀ y∈l.take j,p y=false) (hj:l.length≤j):false=l.any p:=by
  rw[List.take_of_length_le hj]at h
  symm;rw[List.any_eq_false];exact fun y hy=>by simp[h y hy]
theorem hw_ {α:Type} {p:α→Bool} {l:List α} {x:α} (hx:x∈l) (hp:p x=true):true=l.any p:=(List.any_eq_true.2 ⟨x,hx,hp⟩).symm
theorem der_c (c:Cl) (f:Fc) (hf:c.facts.length≤1000000000000):Tri Tryz.prog 21 #[Cl.val c,Fc.val f] [] [at_ c.fad (List.flatMap Fc.cells c.facts)] (fun _:Unit=>.bool (qm_ c.facts f)) (fun _=>[]) (fun _=>[]):=by
 refine t_ Tryz.func21 rfl rfl Tryz.ntmps21 rfl fun v0=>?_
 refine Zz 2 ?_
 refine ag_ rfl rfl fun b1=>ag_ rfl rfl fun b2=>Zz 7 ?_
 refine q_ (fA_ f.a [33]) rfl g_ zt rfl fun _=>C_ ad_ rfl fun b3=>w_ 0 x_ rfl rfl rfl rfl rfl rfl (Zz 4 ?_)
 refine n_ 3 [0,1,2,3,4,5,6,7,8] zk zs (Zz 10 ?_)
 refine i_ 9 rfl zk (q_ (kf_ f.a f.r f.lo f.hi) rfl g_ zt rfl fun _=>Zz 3 ?_)
 refine n_ 0 [10,11] zk zs (cj_ rfl (Y_ (p:=f) (q:=(D_ f.a f.r f.lo f.hi)) rfl rfl) rfl fun r1 hr1=>Zz 14 ?_)
 cases r1
 ·replace hr1:=zdf hr1
  refine av_ (ι:={y:Nat // y≤List.length c.facts∧∀ z∈List.take y c.facts,kT_ f z=false}) (fun y=>[(2,zp_ b1 0),(3,zp_ b2 0),(5,zp_ b3 0),(6,.bool false),(24,.slice c.fad (List.length c.facts) c.fcap),(25,.int .i64 (List.length c.facts:Int)),(26,.int .i64 (y.1:Int))]) (fun y=>((b3,.cells #[.int .i64 (Fc.kind (M_ f.a [33])),str (Fc.a (M_ f.a [33])),str (Fc.b (M_ f.a [33])),str (Fc.r (M_ f.a [33])),.int .i64 (Fc.lo (M_ f.a [33])),.int .i64 (Fc.hi (M_ f.a [33]))] 24 (0,0))::((b2,.cells #[.int .i64 f.kind,str f.a,str f.b,str f.r,.int .i64 f.lo,.int .i64 f.hi] 24 (0,0))::((b1,.cells #[.slice c.aad (List.length c.atoms) c.acap,.slice c.fad (List.length c.facts) c.fcap] 49 (0,0))::[])))) (fun y=>[at_ c.fad (List.flatMap Fc.cells c.facts)]) (fun y=>List.length c.facts - y.1) ⟨(0:Nat),by simp,by simp⟩ zl zp zh ?_
  rintro ⟨j,hj,hall⟩
  dsimp only at hj hall ⊢
  refine Zi 2 (fun hr2=>?_) fun hr2=>?_
  ·refine Zz 12 ?_
   exact J_ hj_ () (f_ rfl (ps_ hall (by omega))) g_ zt
  obtain⟨hlx2,x2,hx2,hmx2⟩:=zge (show j<List.length c.facts by omega)
  refine Zz 12 ?_
  refine C_ ad_ rfl fun b4=>w_ 0 x_ rfl rfl rfl rfl rfl rfl (Zz 7 ?_)
  refine O_ (Y_ (p:=x2) (q:=f) rfl rfl) rfl fun r3 hr3=>Zz 1 ?_
  cases r3
  ·replace hr3:=zdf hr3
   refine Zz 5 ?_
   refine O_ (Y_ (p:=x2) (q:=(M_ f.a [33])) rfl rfl) rfl fun r4 hr4=>Zz 3 ?_
   cases r4
   ·replace hr4:=zdf hr4
    refine Zz 5 ?_
    refine n_ 0 [0,1,2,3,4,5,6,7,8,9,10,11,12,13,14,15,16,17,18,19,20,21,22,23,24,25,26,27] zk zs (Zz 39 ?_)
    exact Q_ ⟨j+1,hlx2,any_no hall hx2 (by have p1:=eq_false hr1;have p2:=eq_true hr2;have p3:=eq_false hr3;have p4:=eq_false hr4;simp only[kT_,p1,p2,p3,p4,if_true,if_false,decide_true,decide_false,Bool.and_true,Bool.and_false,Bool.true_and,Bool.false_and,Bool.or_true,Bool.or_false,Bool.true_or,Bool.false_or,Bool.not_true,Bool.not_false,ne_eq,not_true_eq_false,not_false_eq_true,true_and,and_true,false_and,and_false,true_or,or_true,false_or,or_false,ite_true,ite_false,Bool.false_eq_true])⟩ (by dsimp only;omega) zl (o_ (c_ e_) (o_ (c_ e_) (c_ e_))) zh
   replace hr4:=zdt hr4
   refine Zz 7 ?_
   exact J_ hj_ () (f_ rfl (hw_ hmx2 (by have p1:=eq_false hr1;have p2:=eq_true hr2;have p3:=eq_false hr3;have p4:=eq_true hr4;simp only[kT_,p1,p2,p3,p4,if_true,if_false,decide_true,decide_false,Bool.and_true,Bool.and_false,Bool.true_and,Bool.false_and,Bool.or_true,Bool.or_false,Bool.true_or,Bool.false_or,Bool.not_true,Bool.not_false,ne_eq,not_true_eq_false,not_false_eq_true,true_and,and_true,false_and,and_false,true_or,or_true,false_or,or_false,ite_true,ite_false,Bool.false_eq_true]))) g_ zt
  replace hr3:=zdt hr3
  refine Zz 13 ?_
  exact J_ hj_ () (f_ rfl (hw_ hmx2 (by have p1:=eq_false hr1;have p2:=eq_true hr2;have p3:=eq_true hr3;simp only[kT_,p1,p2,p3,if_true,if_false,decide_true,decide_false,Bool.and_true,Bool.and_false,Bool.true_and,Bool.false_and,Bool.or_true,Bool.or_false,Bool.true_or,Bool.false_or,Bool.not_true,Bool.not_false,ne_eq,not_true_eq_false,not_false_eq_true,true_and,and_true,false_and,and_false,true_or,or_true,false_or,or_false,ite_true,ite_false,Bool.false_eq_true]))) g_ zt
 replace hr1:=zdt hr1
 refine av_ (ι:={y:Nat // y≤List.length c.facts∧∀ z∈List.take y c.facts,kT_ f z=false}) (fun y=>[(2,zp_ b1 0),(3,zp_ b2 0),(5,zp_ b3 0),(6,.bool true),(24,.slice c.fad (List.length c.facts) c.fcap),(25,.int .i64 (List.length c.facts:Int)),(26,.int .i64 (y.1:Int))]) (fun y=>((b3,.cells #[.int .i64 (Fc.kind (M_ f.a [33])),str (Fc.a (M_ f.a [33])),str (Fc.b (M_ f.a [33])),str (Fc.r (M_ f.a [33])),.int .i64 (Fc.lo (M_ f.a [33])),.int .i64 (Fc.hi (M_ f.a [33]))] 24 (0,0))::((b2,.cells #[.int .i64 f.kind,str f.a,str f.b,str f.r,.int .i64 f.lo,.int .i64 f.hi] 24 (0,0))::((b1,.cells #[.slice c.aad (List.length c.atoms) c.acap,.slice c.fad (List.length c.facts) c.fcap] 49 (0,0))::[])))) (fun y=>[at_ c.fad (List.flatMap Fc.cells c.facts)]) (fun y=>List.length c.facts - y.1) ⟨(0:Nat),by simp,by simp⟩ zl zp zh ?_
 rintro ⟨j,hj,hall⟩
 dsimp only at hj hall ⊢
 refine Zi 2 (fun hr5=>?_) fun hr5=>?_
 ·refine Zz 12 ?_
  exact J_ hj_ () (f_ rfl (ps_ hall (by omega))) g_ zt
 obtain⟨hlx2,x2,hx2,hmx2⟩:=zge (show j<List.length c.facts by omega)
 refine Zz 12 ?_
 refine C_ ad_ rfl fun b5=>w_ 0 x_ rfl rfl rfl rfl rfl rfl (Zz 7 ?_)
 refine O_ (Y_ (p:=x2) (q:=f) rfl rfl) rfl fun r6 hr6=>Zz 1 ?_
 cases r6
 ·replace hr6:=zdf hr6
  refine Zz 5 ?_
  refine O_ (Y_ (p:=x2) (q:=(M_ f.a [33])) rfl rfl) rfl fun r7 hr7=>Zz 3 ?_
  cases r7
  ·replace hr7:=zdf hr7
   refine Zz 5 ?_
   refine n_ 17 [0,1,2,3,4,5,6,7,8,9,10] zk zs (Zz 12 ?_)
   refine i_ 11 rfl zk (y_ rfl rfl (q_ (kf_ f.a f.r x2.lo x2.hi) rfl g_ zt rfl fun _=>Zz 3 ?_))
   refine n_ 13 [12,13,14] zk zs (aC_ rfl rfl rfl (Y_ (p:=x2) (q:=(D_ f.a f.r x2.lo x2.hi)) rfl rfl) rfl fun r8 hr8=>Zz 3 ?_)
   cases r8
   ·replace hr8:=zdf hr8
    refine n_ 0 [15,16,17,18,19,20,21,22,23,24,25,26,27] zk zs (Zz 24 ?_)
    exact Q_ ⟨j+1,hlx2,any_no hall hx2 (by have p1:=eq_true hr1;have p2:=eq_true hr5;have p3:=eq_false hr6;have p4:=eq_false hr7;have p5:=eq_false hr8;simp only[kT_,p1,p2,p3,p4,p5,if_true,if_false,decide_true,decide_false,Bool.and_true,Bool.and_false,Bool.true_and,Bool.false_and,Bool.or_true,Bool.or_false,Bool.true_or,Bool.false_or,Bool.not_true,Bool.not_false,ne_eq,not_true_eq_false,not_false_eq_true,true_and,and_true,false_and,and_false,true_or,or_true,false_or,or_false,ite_true,ite_false,Bool.false_eq_true])⟩ (by dsimp only;omega) zl (o_ (c_ e_) (o_ (c_ e_) (c_ e_))) zh
   replace hr8:=zdt hr8
   refine n_ 6 [15,16,17,18,19,20,21] zk zs (Zi 4 (fun hr9=>?_) fun hr9=>?_)
   ·refine Zz 3 ?_
    refine n_ 0 [22,23,24,25,26,27] zk zs (Zz 17 ?_)
    exact Q_ ⟨j+1,hlx2,any_no hall hx2 (by have p1:=eq_true hr1;have p2:=eq_true hr5;have p3:=eq_false hr6;have p4:=eq_false hr7;have p5:=eq_true hr8;have p6:=eq_false hr9;simp only[kT_,p1,p2,p3,p4,p5,p6,if_true,if_false,decide_true,decide_false,Bool.and_true,Bool.and_false,Bool.true_and,Bool.false_and,Bool.or_true,Bool.or_false,Bool.true_or,Bool.false_or,Bool.not_true,Bool.not_false,ne_eq,not_true_eq_false,not_false_eq_true,true_and,and_true,false_and,and_false,true_or,or_true,false_or,or_false,ite_true,ite_false,Bool.false_eq_true])⟩ (by dsimp only;omega) zl (o_ (c_ e_) (o_ (c_ e_) (c_ e_))) zh
   refine Zz 3 ?_
   refine n_ 0 [22,23,24,25,26,27] zk zs (Zi 4 (fun hr10=>?_) fun hr10=>?_)
   ·refine Zz 12 ?_
    exact Q_ ⟨j+1,hlx2,any_no hall hx2 (by have p1:=eq_true hr1;have p2:=eq_true hr5;have p3:=eq_false hr6;have p4:=eq_false hr7;have p5:=eq_true hr8;have p6:=eq_true hr9;have p7:=eq_false hr10;simp only[kT_,p1,p2,p3,p4,p5,p6,p7,if_true,if_false,decide_true,decide_false,Bool.and_true,Bool.and_false,Bool.true_and,Bool.false_and,Bool.or_true,Bool.or_false,Bool.true_or,Bool.false_or,Bool.not_true,Bool.not_false,ne_eq,not_true_eq_false,not_false_eq_true,true_and,and_true,false_and,and_false,true_or,or_true,false_or,or_false,ite_true,ite_false,Bool.false_eq_true])⟩ (by dsimp only;omega) zl (o_ (c_ e_) (o_ (c_ e_) (c_ e_))) zh
   refine Zz 11 ?_
   exact J_ hj_ () (f_ rfl (hw_ hmx2 (by have p1:=eq_true hr1;have p2:=eq_true hr5;have p3:=eq_false hr6;have p4:=eq_false hr7;have p5:=eq_true hr8;have p6:=eq_true hr9;have p7:=eq_true hr10;simp only[kT_,p1,p2,p3,p4,p5,p6,p7,if_true,if_false,decide_true,decide_false,Bool.and_true,Bool.and_false,Bool.true_and,Bool.false_and,Bool.or_true,Bool.or_false,Bool.true_or,Bool.false_or,Bool.not_true,Bool.not_false,ne_eq,not_true_eq_false,not_false_eq_true,true_and,and_true,false_and,and_false,true_or,or_true,false_or,or_false,ite_true,ite_false,Bool.false_eq_true]))) g_ zt
  replace hr7:=zdt hr7
  refine Zz 7 ?_
  exact J_ hj_ () (f_ rfl (hw_ hmx2 (by have p1:=eq_true hr1;have p2:=eq_true hr5;have p3:=eq_false hr6;have p4:=eq_true hr7;simp only[kT_,p1,p2,p3,p4,if_true,if_false,decide_true,decide_false,Bool.and_true,Bool.and_false,Bool.true_and,Bool.false_and,Bool.or_true,Bool.or_false,Bool.true_or,Bool.false_or,Bool.not_true,Bool.not_false,ne_eq,not_true_eq_false,not_false_eq_true,true_and,and_true,false_and,and_false,true_or,or_true,false_or,or_false,ite_true,ite_false,Bool.false_eq_true]))) g_ zt
 replace hr6:=zdt hr6
 refine Zz 13 ?_
 exact J_ hj_ () (f_ rfl (hw_ hmx2 (by have p1:=eq_true hr1;have p2:=eq_true hr5;have p3:=eq_true hr6;simp only[kT_,p1,p2,p3,if_true,if_false,decide_true,decide_false,Bool.and_true,Bool.and_false,Bool.true_and,Bool.false_and,Bool.or_true,Bool.or_false,Bool.true_or,Bool.false_or,Bool.not_true,Bool.not_false,ne_eq,not_true_eq_false,not_false_eq_true,true_and,and_true,false_and,and_false,true_or,or_true,false_or,or_false,ite_true,ite_false,Bool.false_eq_true]))) g_ zt
end Go.Proofs.YtaffcjgphlhppaaGreatDoor
namespace Go.Proofs.YtaffcjgphlhppaaGreatDoor
open Go Go.Sx Go.Proofs
attribute [local irreducible] Code.wp wpList wpAnyH
open Go.Vs
theorem oa_ (db:Nat) (d:Dst) (n:Nat) (hd:d.ok) (hn:n<140737488355328):TriX Tryz.prog 159 #[zp_ db 0,.int .i64 (n:Int)] [(db,.cells #[.slice (Dst.ad d) (List.length (Dst.r d)) (Dst.cap d)] 92 (0,0))] [at_ (Dst.ad d) (List.flatMap u8C (Dst.r d))] (fun y:{y:(Option Addr×Nat)×Dst // n≤d.r.length∧y.2.r=d.r.drop n∧y.2.ok∧(d.r.take n).length≤y.1.2∧(y.1.1=none→y.1.2=0)}=>.slice y.1.1.1 (List.length (d.r.take n)) y.1.1.2) (fun y=>[(db,.cells #[.slice (Dst.ad y.1.2) (List.length (Dst.r y.1.2)) (Dst.cap y.1.2)] 92 (0,0))]) (fun y=>[at_ y.1.1.1 (List.flatMap u8C (d.r.take n)),at_ (Dst.ad y.1.2) (List.flatMap u8C (Dst.r y.1.2))]) (¬ n≤d.r.length):=by
 refine bc_ Tryz.func159 rfl rfl Tryz.ntmps159 rfl fun v0=>?_
 refine Zz 13 ?_
 refine O_ (dV_ rfl rfl) rfl fun r1 hr1=>?_
 refine aa_ (dI_ r1) rfl g_ zt rfl (fun hb=>cF_ ((fun q=>by rw[hb]at hr1;simp at hr1;omega))) fun⟨_,hn1⟩=>?_
 try dsimp only
 have hn9:n≤List.length (Dst.r d):=by have z:=hr1;rw[hn1]at z;simp at z;omega
 refine Zz 3 ?_
 refine ax_ ([]) zk ?_
 refine n_ 8 [0,1,2,3,5,7,8,9,11] zk zs (Zz 10 ?_)
 refine bN_ 4 10 rfl rfl zk ?_ ?_
 ·refine Zz 4 ?_
  refine n_ 5 [6,13] zk zs ?_
  refine Z_ rfl (bF_ (fx_ (i:=0) (j:=n) (kl:=.i64) (kh:=.i64) aV_ hi_ rfl rfl rfl (by omega) (by have:=hd.1;omega)) (show _=Value.slice (sad (Dst.ad d) (Dst.cap d) 0 1) (List.length (List.take n (Dst.r d))) ((Dst.cap d) - 0) by rw[List.length_take,Nat.min_eq_left (by omega)];rfl)) rfl ?_
  refine Zz 2 ?_
  refine i_ 10 rfl zk (Zz 4 ?_)
  refine n_ 1 [12,14,15] zk zs ?_
  refine Z_ rfl (bF_ (fx_ (i:=n) (j:=List.length (Dst.r d)) (kl:=.i64) (kh:=.i64) aV_ hi_ rfl rfl rfl (by omega) (by have:=hd.1;omega)) (show _=Value.slice (sad (Dst.ad d) (Dst.cap d) n 1) (List.length (List.drop n (Dst.r d))) ((Dst.cap d) - n) by rw[List.length_drop])) rfl ?_
  refine Zz 3 ?_
  refine i_ 16 rfl zk (w_ 0 Tryz.sizeOf39 rfl rfl rfl rfl rfl rfl (Zz 12 ?_))
  have k1:List.length (List.drop n (Dst.r d))≤((Dst.cap d) - n):=(by rw[List.length_drop];have:=hd.1;omega)
  have k2:((Dst.cap d) - n)≤maxLen:=by have:=hd.2.1;omega
  have k3:(sad (Dst.ad d) (Dst.cap d) n 1)=none→((Dst.cap d) - n)=0:=(fun q=>by have:=hd.2.2 (iA_ q);omega)
  have k4:List.length (List.take n (Dst.r d))≤((Dst.cap d) - 0):=(by rw[List.length_take];have:=hd.1;omega)
  have k5:(sad (Dst.ad d) (Dst.cap d) 0 1)=none→((Dst.cap d) - 0)=0:=(fun q=>by have:=hd.2.2 (iA_ q);omega)
  exact cf_ (J_ Tryz.results159 ⟨(((sad (Dst.ad d) (Dst.cap d) 0 1),((Dst.cap d) - 0)),Dst.mk (sad (Dst.ad d) (Dst.cap d) n 1) ((Dst.cap d) - n) (List.drop n (Dst.r d))),hn9,rfl,⟨k1,k2,k3⟩,k4,k5⟩ (hN_ rfl (by dsimp only)) e_ (fun v _ h=>by exact⟨(bE_.slice hD_ h.1 hd.1 0 n),(bE_.rest hD_ h.1 hd.1 n),trivial⟩))
 refine Zz 4 ?_
 refine n_ 6 [12] zk zs ?_
 refine Z_ rfl (bF_ (fx_ (i:=n) (j:=List.length (Dst.r d)) (kl:=.i64) (kh:=.i64) aV_ hi_ rfl rfl rfl (by omega) (by have:=hd.1;omega)) (show _=Value.slice (sad (Dst.ad d) (Dst.cap d) n 1) (List.length (List.drop n (Dst.r d))) ((Dst.cap d) - n) by rw[List.length_drop])) rfl ?_
 refine dB_ (i_ 4 rfl zk (Zz 4 ?_))
 refine n_ 1 [6,13,14,15] zk zs ?_
 refine Z_ rfl (bF_ (fx_ (i:=0) (j:=n) (kl:=.i64) (kh:=.i64) aV_ hi_ rfl rfl rfl (by omega) (by have:=hd.1;omega)) (show _=Value.slice (sad (Dst.ad d) (Dst.cap d) 0 1) (List.length (List.take n (Dst.r d))) ((Dst.cap d) - 0) by rw[List.length_take,Nat.min_eq_left (by omega)];rfl)) rfl ?_
 refine Zz 4 ?_
 refine i_ 16 rfl zk (w_ 0 Tryz.sizeOf39 rfl rfl rfl rfl rfl rfl (Zz 12 ?_))
 have k1:List.length (List.drop n (Dst.r d))≤((Dst.cap d) - n):=(by rw[List.length_drop];have:=hd.1;omega)
 have k2:((Dst.cap d) - n)≤maxLen:=by have:=hd.2.1;omega
 have k3:(sad (Dst.ad d) (Dst.cap d) n 1)=none→((Dst.cap d) - n)=0:=(fun q=>by have:=hd.2.2 (iA_ q);omega)
 have k4:List.length (List.take n (Dst.r d))≤((Dst.cap d) - 0):=(by rw[List.length_take];have:=hd.1;omega)
 have k5:(sad (Dst.ad d) (Dst.cap d) 0 1)=none→((Dst.cap d) - 0)=0:=(fun q=>by have:=hd.2.2 (iA_ q);omega)
 exact cf_ (J_ Tryz.results159 ⟨(((sad (Dst.ad d) (Dst.cap d) 0 1),((Dst.cap d) - 0)),Dst.mk (sad (Dst.ad d) (Dst.cap d) n 1) ((Dst.cap d) - n) (List.drop n (Dst.r d))),hn9,rfl,⟨k1,k2,k3⟩,k4,k5⟩ (hN_ rfl (by dsimp only)) e_ (fun v _ h=>by exact⟨(bE_.slice hD_ h.1 hd.1 0 n),(bE_.rest hD_ h.1 hd.1 n),trivial⟩))
theorem gY_ (db:Nat) (d:Dst) (n:Nat) (hd:d.ok) (hn:n≤8):TriX Tryz.prog 87 #[zp_ db 0,.int .i64 (n:Int)] [(db,.cells #[.slice (Dst.ad d) (List.length (Dst.r d)) (Dst.cap d)] 92 (0,0))] [at_ (Dst.ad d) (List.flatMap u8C (Dst.r d))] (fun y:{y:Nat×Dst // ev_ n d.r=some (y.1,y.2.r)∧y.2.ok}=>.int .u64 (y.1.1:Int)) (fun y=>[(db,.cells #[.slice (Dst.ad y.1.2) (List.length (Dst.r y.1.2)) (Dst.cap y.1.2)] 92 (0,0))]) (fun y=>[at_ (Dst.ad y.1.2) (List.flatMap u8C (Dst.r y.1.2))]) (ev_ n d.r=none):=by
 refine bc_ Tryz.func87 rfl rfl Tryz.ntmps87 rfl fun v0=>?_
 have hl9:List.length (List.take n (Dst.r d))≤8:=by rw[List.length_take];omega
 refine Zz 10 ?_
 refine aa_ (oa_ db d n hd (by omega)) rfl e_ zf rfl (fun hb=>cF_ (lP_ hb)) fun⟨⟨⟨ba,bc⟩,e⟩,hb1,hb2,hb3,hb4,hb5⟩=>?_
 try dsimp only
 refine Zz 5 ?_
 refine av_ (ι:={y:Nat // y≤List.length (List.take n (Dst.r d))}) (fun y=>[(4,.int .u64 (beN (List.take y.1 (List.take n (Dst.r d))):Int)),(9,.slice ba (List.length (List.take n (Dst.r d))) bc),(10,.int .i64 (List.length (List.take n (Dst.r d)):Int)),(11,.int .i64 (y.1:Int))]) (fun y=>((db,.cells #[.slice (Dst.ad e) (List.length (Dst.r e)) (Dst.cap e)] 92 (0,0))::[])) (fun y=>[at_ ba (List.flatMap u8C (List.take n (Dst.r d))),at_ (Dst.ad e) (List.flatMap u8C (Dst.r e)),at_ (Dst.ad d) (List.flatMap u8C (Dst.r d))]) (fun y=>List.length (List.take n (Dst.r d)) - y.1) ⟨(0:Nat),by simp⟩ zl e_ zh ?_
 rintro ⟨i,hi_i⟩
 dsimp only at hi_i ⊢
 refine Zi 2 (fun hr1=>?_) fun hr1=>?_
 ·refine Zz 13 ?_
  have e9:List.take i (List.take n (Dst.r d))=(List.take n (Dst.r d)):=List.take_of_length_le (by omega)
  exact cf_ (J_ Tryz.results87 ⟨(beN (List.take n (Dst.r d)),e),by rw[jg_ hb1,hb2],hb3⟩ (au_ rfl (by rw[e9])) e_ zf)
 obtain⟨hlx1,x1,hx1,hmx1⟩:=zge (show i<List.length (List.take n (Dst.r d)) by omega)
 refine Zz 10 ?_
 refine d_ (X_ aV_ hi_ rfl rfl (fun v _ h=>I_ (n:=1) hD_ (by decide) (by exact h.1) hx1) (by omega) (by first|omega|(simp;done))) rfl ?_
 refine d_ (bn_ (ad:=ba) Tryz.isAgg5 rfl zf (G_ hD_ hx1 0 _ rfl)) rfl (Zz 5 ?_)
 refine d_ (qz_ (m:=beN (List.take i (List.take n (Dst.r d)))) rfl rfl (qX_ hlx1 (by rw[List.length_take];omega))) rfl ?_
 refine Zz 1 ?_
 refine d_ (gI_ mY_ fk_ rfl (qE_ (by omega) (by have:=UInt8.toNat_lt x1;omega))) rfl ?_
 refine d_ (ss_ (m:=beN (List.take i (List.take n (Dst.r d)))) (c:=UInt8.toNat x1) rfl rfl (qX_ hlx1 (by rw[List.length_take];omega)) (by have:=UInt8.toNat_lt x1;omega)) rfl ?_
 refine Zz 8 ?_
 exact Q_ ⟨i+1,hlx1⟩ (by dsimp only;omega) ⟨(congrArg some (congrArg (Value.int .u64) (by dsimp only;rw[tN_ hx1]))),rfl,rfl,rfl,trivial⟩ e_ zh
theorem nY_ (db:Nat):md_ Tryz.prog 89 92 db (fun q:Int=>Value.int .i64 q) ei_:=by
  intro d hd
  refine bc_ Tryz.func89 rfl rfl Tryz.ntmps89 rfl fun v0=>?_
  refine Zz 8 ?_
  refine aa_ (gY_ db d 1 hd (by decide)) rfl e_ zf rfl (fun hb=>cF_ (sI_ hb)) fun⟨⟨iv,e⟩,hi1,hi2⟩=>?_
  try dsimp only
  refine d_ (gI_ fk_ bh_ rfl (mf_ (by have:=iN_ hi1;omega))) rfl ?_
  refine Zz 4 ?_
  exact cf_ (J_ Tryz.results89 ⟨((iv:Int),e),sH_ hi1,hi2⟩ rfl e_ zf)
theorem tE_ (db:Nat):md_ Tryz.prog 92 92 db (fun q:Int=>Value.int .i64 q) hn_:=by
  intro d hd
  refine bc_ Tryz.func92 rfl rfl Tryz.ntmps92 rfl fun v0=>?_
  refine Zz 8 ?_
  refine aa_ (gY_ db d 8 hd (by decide)) rfl e_ zf rfl (fun hb=>cF_ (long_n hb)) fun⟨⟨iv,e⟩,hi1,hi2⟩=>?_
  try dsimp only
  refine d_ (gI_ fk_ bh_ rfl (qD_ (by have:=iN_ hi1;omega))) rfl ?_
  refine Zz 4 ?_
  exact cf_ (J_ Tryz.results92 ⟨((ip_ iv),e),long_t hi1,hi2⟩ rfl e_ zf)
theorem iR_ (db:Nat):md_ Tryz.prog 42 92 db (fun q:Int=>Value.int .i64 q) gT_:=by
  intro d hd
  refine bc_ Tryz.func42 rfl rfl Tryz.ntmps42 rfl fun v0=>?_
  refine Zz 8 ?_
  refine aa_ (gY_ db d 4 hd (by decide)) rfl e_ zf rfl (fun hb=>cF_ (idx_n hb)) fun⟨⟨iv,e⟩,hi1,hi2⟩=>?_
  try dsimp only
  refine Zz 6 ?_
  refine O_ (dV_ rfl rfl) rfl fun r1 hr1=>?_
  refine aa_ (dI_ r1) rfl g_ zt rfl (fun hb=>cF_ ((idx_f hi1 (fun q=>by rw[hb]at hr1;simp at hr1;omega)))) fun⟨_,hn1⟩=>?_
  try dsimp only
  have hn9:iv≤2147483647:=by have z:=hr1;rw[hn1]at z;simp at z;omega
  refine Zz 5 ?_
  refine d_ (gI_ fk_ bh_ rfl (mf_ (by omega))) rfl (Zz 4 ?_)
  exact cf_ (J_ Tryz.results42 ⟨((iv:Int),e),uc_ hi1 hn9,hi2⟩ rfl e_ zf)
theorem tD_ (db:Nat):md_ Tryz.prog 91 92 db str fz_:=by
  intro d hd
  refine bc_ Tryz.func91 rfl rfl Tryz.ntmps91 rfl fun v0=>?_
  refine Zz 9 ?_
  refine aa_ (gY_ db d 2 hd (by decide)) rfl e_ zf rfl (fun hb=>cF_ (text_n hb)) fun⟨⟨iv,e⟩,hi1,hi2⟩=>?_
  try dsimp only
  refine d_ (gI_ fk_ bh_ rfl (mf_ (by have:=iN_ hi1;omega))) rfl ?_
  refine aa_ (oa_ db e iv hi2 (by have:=iN_ hi1;omega)) rfl e_ zf rfl (fun hb=>cF_ (text_f hi1 hb)) fun⟨⟨⟨ba,bc⟩,e2⟩,hb1,hb2,hb3,hb4,hb5⟩=>?_
  try dsimp only
  refine d_ (oR_ lp_ mY_ aM_ rfl zf) rfl (Zz 4 ?_)
  exact cf_ (J_ Tryz.results91 ⟨(_,e2),by rw[qJ_ hi1 hb1,hb2],hb3⟩ rfl e_ zf)
end Go.Proofs.YtaffcjgphlhppaaGreatDoor
namespace Go.Proofs.YtaffcjgphlhppaaGreatDoor
open Go Go.Sx Go.Proofs
attribute [local irreducible] Code.wp wpList wpAnyH
open Go.Vs
theorem jP_ (g:FuncId) (db tb:Nat) (TT:TypeId) (f:Str→Option (Int×Str)) (hrd:md_ Tryz.prog g 92 db (fun q:Int=>Value.int .i64 q) f) (d:Dst) (hd:d.ok) (os:List Nat) (cs:List Value) (hos:∀ o∈os,o<List.length cs) (pad:Option Addr) (pcap:Nat) (hol:os.length≤100):TriX Tryz.prog 88 #[.func (.func g) #[zp_ db 0] #[],.slice pad (List.length os) pcap] [(tb,.cells (List.toArray cs) TT (0,0)),(db,.cells #[.slice (Dst.ad d) (List.length (Dst.r d)) (Dst.cap d)] 92 (0,0))] [at_ pad (List.flatMap (lc_ tb) os),at_ (Dst.ad d) (List.flatMap u8C (Dst.r d))] (fun y:{y:List Value×Dst // du_ f (fun q:Int=>Value.int .i64 q) os cs d.r=some (y.1,y.2.r)∧y.2.ok}=>.tuple #[]) (fun y=>[(tb,.cells (List.toArray y.1.1) TT (0,0)),(db,.cells #[.slice (Dst.ad y.1.2) (List.length (Dst.r y.1.2)) (Dst.cap y.1.2)] 92 (0,0))]) (fun y=>[at_ (Dst.ad y.1.2) (List.flatMap u8C (Dst.r y.1.2))]) (du_ f (fun q:Int=>Value.int .i64 q) os cs d.r=none):=by
 refine bc_ Tryz.func88 rfl rfl Tryz.ntmps88 rfl fun v0=>?_
 refine Zz 8 ?_
 refine av_ (ι:={y:Nat×List Value×Dst // y.1≤List.length os∧du_ f (fun q:Int=>Value.int .i64 q) os cs d.r=du_ f (fun q:Int=>Value.int .i64 q) (List.drop y.1 os) y.2.1 y.2.2.r∧Dst.ok y.2.2∧List.length y.2.1=List.length cs}) (fun y=>[(0,.func (.func g) #[zp_ db 0] #[]),(6,.slice pad (List.length os) pcap),(7,.int .i64 (List.length os:Int)),(8,.int .i64 (y.1.1:Int))]) (fun y=>((tb,.cells (List.toArray y.1.2.1) TT (0,0))::((db,.cells #[.slice (Dst.ad y.1.2.2) (List.length (Dst.r y.1.2.2)) (Dst.cap y.1.2.2)] 92 (0,0))::[]))) (fun y=>[at_ pad (List.flatMap (lc_ tb) os),at_ (Dst.ad y.1.2.2) (List.flatMap u8C (Dst.r y.1.2.2))]) (fun y=>List.length os - y.1.1) ⟨((0:Nat),cs,d),by simp,rfl,hd,rfl⟩ zl zp zh ?_
 rintro ⟨⟨i,c,e⟩,hi,hF,he,hcl⟩
 dsimp only at hi hF he hcl ⊢
 refine Zi 2 (fun hr1=>?_) fun hr1=>?_
 ·refine Zz 6 ?_
  exact endX (cW_ Tryz.results88 ⟨(c,e),nT_ hF (by omega),he⟩ rfl zp zf)
 obtain⟨hlx1,x1,hx1,hmx1⟩:=zge (show i<List.length os by omega)
 refine Zz 10 ?_
 refine d_ (X_ bq_ qW_ rfl rfl (fun v _ h=>I_ (n:=1) (iC_ tb) (by decide) (by exact h.1) hx1) (by omega) (by first|omega|(simp;done))) rfl ?_
 refine d_ (bn_ (ad:=pad) Tryz.isAgg159 rfl zf (G_ (iC_ tb) hx1 0 _ rfl)) rfl (Zz 6 ?_)
 refine gO_ (first:=[zp_ db 0]) (cap:=[]) (vs:=[]) (hrd e he) rfl rfl zp zf rfl (fun hb=>cF_ (lX_ hF hx1 hb)) fun⟨⟨rv,e1⟩,hf1,he1⟩=>?_
 dsimp only
 refine Zz 1 ?_
 refine jv_ aq_ rfl rfl (c_ e_) (by rw[hcl];exact hos _ hmx1) rfl rfl ?_
 refine Zz 7 ?_
 exact Q_ ⟨(i+1,(List.set c x1 ((fun q:Int=>Value.int .i64 q) rv)),e1),hlx1,lY_ hF hx1 hf1,he1,(by rw[List.length_set];exact hcl)⟩ (by dsimp only;omega) zl zp zf
theorem tx_ (g:FuncId) (db tb:Nat) (TT:TypeId) (f:Str→Option (Str×Str)) (hrd:md_ Tryz.prog g 92 db str f) (d:Dst) (hd:d.ok) (os:List Nat) (cs:List Value) (hos:∀ o∈os,o<List.length cs) (pad:Option Addr) (pcap:Nat) (hol:os.length≤100):TriX Tryz.prog 90 #[.func (.func g) #[zp_ db 0] #[],.slice pad (List.length os) pcap] [(tb,.cells (List.toArray cs) TT (0,0)),(db,.cells #[.slice (Dst.ad d) (List.length (Dst.r d)) (Dst.cap d)] 92 (0,0))] [at_ pad (List.flatMap (lc_ tb) os),at_ (Dst.ad d) (List.flatMap u8C (Dst.r d))] (fun y:{y:List Value×Dst // du_ f str os cs d.r=some (y.1,y.2.r)∧y.2.ok}=>.tuple #[]) (fun y=>[(tb,.cells (List.toArray y.1.1) TT (0,0)),(db,.cells #[.slice (Dst.ad y.1.2) (List.length (Dst.r y.1.2)) (Dst.cap y.1.2)] 92 (0,0))]) (fun y=>[at_ (Dst.ad y.1.2) (List.flatMap u8C (Dst.r y.1.2))]) (du_ f str os cs d.r=none):=by
 refine bc_ Tryz.func90 rfl rfl Tryz.ntmps90 rfl fun v0=>?_
 refine Zz 8 ?_
 refine av_ (ι:={y:Nat×List Value×Dst // y.1≤List.length os∧du_ f str os cs d.r=du_ f str (List.drop y.1 os) y.2.1 y.2.2.r∧Dst.ok y.2.2∧List.length y.2.1=List.length cs}) (fun y=>[(0,.func (.func g) #[zp_ db 0] #[]),(6,.slice pad (List.length os) pcap),(7,.int .i64 (List.length os:Int)),(8,.int .i64 (y.1.1:Int))]) (fun y=>((tb,.cells (List.toArray y.1.2.1) TT (0,0))::((db,.cells #[.slice (Dst.ad y.1.2.2) (List.length (Dst.r y.1.2.2)) (Dst.cap y.1.2.2)] 92 (0,0))::[]))) (fun y=>[at_ pad (List.flatMap (lc_ tb) os),at_ (Dst.ad y.1.2.2) (List.flatMap u8C (Dst.r y.1.2.2))]) (fun y=>List.length os - y.1.1) ⟨((0:Nat),cs,d),by simp,rfl,hd,rfl⟩ zl zp zh ?_
 rintro ⟨⟨i,c,e⟩,hi,hF,he,hcl⟩
 dsimp only at hi hF he hcl ⊢
 refine Zi 2 (fun hr1=>?_) fun hr1=>?_
 ·refine Zz 6 ?_
  exact endX (cW_ Tryz.results90 ⟨(c,e),nT_ hF (by omega),he⟩ rfl zp zf)
 obtain⟨hlx1,x1,hx1,hmx1⟩:=zge (show i<List.length os by omega)
 refine Zz 10 ?_
 refine d_ (X_ bZ_ Tryz.sizeOf162 rfl rfl (fun v _ h=>I_ (n:=1) (iC_ tb) (by decide) (by exact h.1) hx1) (by omega) (by first|omega|(simp;done))) rfl ?_
 refine d_ (bn_ (ad:=pad) Tryz.isAgg162 rfl zf (G_ (iC_ tb) hx1 0 _ rfl)) rfl (Zz 6 ?_)
 refine gO_ (first:=[zp_ db 0]) (cap:=[]) (vs:=[]) (hrd e he) rfl rfl zp zf rfl (fun hb=>cF_ (lX_ hF hx1 hb)) fun⟨⟨rv,e1⟩,hf1,he1⟩=>?_
 dsimp only
 refine Zz 1 ?_
 refine jv_ al_ rfl rfl (c_ e_) (by rw[hcl];exact hos _ hmx1) rfl rfl ?_
 refine Zz 7 ?_
 exact Q_ ⟨(i+1,(List.set c x1 (str rv)),e1),hlx1,lY_ hF hx1 hf1,he1,(by rw[List.length_set];exact hcl)⟩ (by dsimp only;omega) zl zp zf
end Go.Proofs.YtaffcjgphlhppaaGreatDoor
namespace Go.Proofs.YtaffcjgphlhppaaGreatDoor
open Go Go.Sx Go.Proofs
attribute [local irreducible] Code.wp wpList wpAnyH
open Go.Vs
theorem mH_:Elt Tryz.prog 34 3 1 8:=kS_ Tryz.underlying34 (z:=.int .i64 0) (by kernel_rfl) rfl (by decide)
theorem hS_ (db:Nat) (d:Dst) (hd:d.ok):TriX Tryz.prog 44 #[zp_ db 0] [(db,.cells #[.slice (Dst.ad d) (List.length (Dst.r d)) (Dst.cap d)] 92 (0,0))] [at_ (Dst.ad d) (List.flatMap u8C (Dst.r d))] (fun y:{y:Stp×Dst // iy_ d.r=some (y.1.ds,y.2.r)∧y.2.ok}=>Stp.val y.1.1) (fun y=>[(db,.cells #[.slice (Dst.ad y.1.2) (List.length (Dst.r y.1.2)) (Dst.cap y.1.2)] 92 (0,0))]) (fun y=>[at_ y.1.1.ad (List.flatMap dY_ y.1.1.frm),at_ (Dst.ad y.1.2) (List.flatMap u8C (Dst.r y.1.2))]) (iy_ d.r=none):=by
 refine bc_ Tryz.func44 rfl rfl Tryz.ntmps44 rfl fun v0=>?_
 refine Zz 2 ?_
 refine C_ bb_ rfl fun b1=>Zz 10 ?_
 refine C_ cx_ rfl fun b2=>w_ 0 aq_ rfl rfl rfl rfl rfl rfl (Zz 5 ?_)
 refine d_ (bI_ rfl rfl) rfl (Zz 4 ?_)
 refine ap_ bq_ qW_ Tryz.zeroValue159 rfl rfl rfl rfl rfl rfl fun b3=>?_
 refine bu_ (List.flatMap (lc_ b1) [0,1]) e_ rfl ?_
 refine aa_ (jP_ 89 db b1 36 ei_ (nY_ db) d hd [0,1] [.int .i64 0,.int .i64 0,str [],str [],str [],.int .i64 0,.int .i64 0,.int .i64 0,.slice none 0 0] (by simp) (some ⟨b3,0,none⟩) 2 (by simp)) rfl (o_ (c_ e_) (c_ e_)) zf rfl (fun hb=>cF_ ((by rw[ez_];exact oL_ hb _))) fun⟨⟨c1,d1⟩,hf1,hd1⟩=>?_
 try dsimp only
 obtain⟨v1,r1,hq1,hf1⟩:=hP_ hf1
 obtain⟨v2,hq2,rfl⟩:=hs_ hf1
 refine ac_ (show List.Perm _ ((b1,.cells #[.int .i64 v1,.int .i64 v2,str [],str [],str [],.int .i64 0,.int .i64 0,.int .i64 0,.slice none 0 0] 36 (0,0))::((db,.cells #[.slice (Dst.ad d1) (List.length (Dst.r d1)) (Dst.cap d1)] 92 (0,0))::((b2,.cells #[.int .i64 0] 3 (0,0))::[]))) from .refl _) (Zz 3 ?_)
 refine ax_ ((b2,.cells #[.int .i64 0] 3 (0,0))::[]) zk ?_
 refine n_ 2 [0,1,2,3,4,5,6,7,8,9,10] zk zs (Zz 1 ?_)
 refine Z_ rfl (bI_ rfl rfl) rfl (Zz 10 ?_)
 refine i_ 11 rfl zk (ap_ bZ_ Tryz.sizeOf162 Tryz.zeroValue162 rfl rfl rfl rfl rfl rfl fun b4=>?_)
 refine bu_ (List.flatMap (lc_ b1) [2,3,4]) e_ rfl ?_
 refine Zz 3 ?_
 refine i_ 12 rfl zk (aa_ (tx_ 91 db b1 36 fz_ (tD_ db) d1 hd1 [2,3,4] [.int .i64 v1,.int .i64 v2,str [],str [],str [],.int .i64 0,.int .i64 0,.int .i64 0,.slice none 0 0] (by simp) (some ⟨b4,0,none⟩) 3 (by simp)) rfl zp zf rfl (fun hb=>cF_ ((by rw[ez_];simp only[hq1,hq2,Option.bind_some];exact chain3 hb _))) fun⟨⟨c2,d2⟩,hf2,hd2⟩=>?_)
 try dsimp only
 obtain⟨v3,r3,hq3,hf2⟩:=hP_ hf2
 obtain⟨v4,r4,hq4,hf2⟩:=hP_ hf2
 obtain⟨v5,hq5,rfl⟩:=hs_ hf2
 refine ac_ (show List.Perm _ ((b1,.cells #[.int .i64 v1,.int .i64 v2,str v3,str v4,str v5,.int .i64 0,.int .i64 0,.int .i64 0,.slice none 0 0] 36 (0,0))::((db,.cells #[.slice (Dst.ad d2) (List.length (Dst.r d2)) (Dst.cap d2)] 92 (0,0))::((b2,.cells #[.int .i64 0] 3 (0,0))::[]))) from .refl _) (Zz 6 ?_)
 refine ax_ ((b2,.cells #[.int .i64 0] 3 (0,0))::[]) zk ?_
 refine n_ 2 [0,1,2,3,4,5,6,7] zk zs (Zz 1 ?_)
 refine Z_ rfl (bI_ rfl rfl) rfl (Zz 7 ?_)
 refine i_ 8 rfl zk (ap_ bq_ qW_ Tryz.zeroValue159 rfl rfl rfl rfl rfl rfl fun b5=>?_)
 refine bu_ (List.flatMap (lc_ b1) [5,6]) e_ rfl ?_
 refine Zz 3 ?_
 refine i_ 9 rfl zk (aa_ (jP_ 92 db b1 36 hn_ (tE_ db) d2 hd2 [5,6] [.int .i64 v1,.int .i64 v2,str v3,str v4,str v5,.int .i64 0,.int .i64 0,.int .i64 0,.slice none 0 0] (by simp) (some ⟨b5,0,none⟩) 2 (by simp)) rfl zp zf rfl (fun hb=>cF_ ((by rw[ez_];simp only[hq1,hq2,hq3,hq4,hq5,Option.bind_some];exact oL_ hb _))) fun⟨⟨c3,d3⟩,hf3,hd3⟩=>?_)
 try dsimp only
 obtain⟨v6,r6,hq6,hf3⟩:=hP_ hf3
 obtain⟨v7,hq7,rfl⟩:=hs_ hf3
 refine ac_ (show List.Perm _ ((b1,.cells #[.int .i64 v1,.int .i64 v2,str v3,str v4,str v5,.int .i64 v6,.int .i64 v7,.int .i64 0,.slice none 0 0] 36 (0,0))::((db,.cells #[.slice (Dst.ad d3) (List.length (Dst.r d3)) (Dst.cap d3)] 92 (0,0))::((b2,.cells #[.int .i64 0] 3 (0,0))::[]))) from .refl _) (Zz 8 ?_)
 refine d_ (bI_ rfl rfl) rfl (Zz 1 ?_)
 refine ap_ bq_ qW_ Tryz.zeroValue159 rfl rfl rfl rfl rfl rfl fun b6=>?_
 refine bu_ (List.flatMap (lc_ b1) [7]) e_ rfl ?_
 refine aa_ (jP_ 42 db b1 36 gT_ (iR_ db) d3 hd3 [7] [.int .i64 v1,.int .i64 v2,str v3,str v4,str v5,.int .i64 v6,.int .i64 v7,.int .i64 0,.slice none 0 0] (by simp) (some ⟨b6,0,none⟩) 1 (by simp)) rfl zp zf rfl (fun hb=>cF_ ((by rw[ez_];simp only[hq1,hq2,hq3,hq4,hq5,hq6,hq7,Option.bind_some];exact oM_ hb _))) fun⟨⟨c4,d4⟩,hf4,hd4⟩=>?_
 try dsimp only
 obtain⟨v8,hq8,rfl⟩:=hs_ hf4
 refine ac_ (show List.Perm _ ((b1,.cells #[.int .i64 v1,.int .i64 v2,str v3,str v4,str v5,.int .i64 v6,.int .i64 v7,.int .i64 v8,.slice none 0 0] 36 (0,0))::((db,.cells #[.slice (Dst.ad d4) (List.length (Dst.r d4)) (Dst.cap d4)] 92 (0,0))::((b2,.cells #[.int .i64 0] 3 (0,0))::[]))) from .refl _) (Zz 5 ?_)
 refine d_ (bI_ rfl rfl) rfl (ap_ bq_ qW_ Tryz.zeroValue159 rfl rfl rfl rfl rfl rfl fun b7=>?_)
 refine bu_ (List.flatMap (lc_ b2) [0]) e_ rfl ?_
 refine aa_ (jP_ 89 db b2 3 ei_ (nY_ db) d4 hd4 [0] [.int .i64 0] (by simp) (some ⟨b7,0,none⟩) 1 (by simp)) rfl zp zf rfl (fun hb=>cF_ ((by rw[ez_];simp only[hq1,hq2,hq3,hq4,hq5,hq6,hq7,hq8,Option.bind_some];exact oM_ hb _))) fun⟨⟨c5,d5⟩,hf5,hd5⟩=>?_
 try dsimp only
 obtain⟨v9,hq9,rfl⟩:=hs_ hf5
 refine ac_ (show List.Perm _ ((b2,.cells #[.int .i64 v9] 3 (0,0))::((db,.cells #[.slice (Dst.ad d5) (List.length (Dst.r d5)) (Dst.cap d5)] 92 (0,0))::((b1,.cells #[.int .i64 v1,.int .i64 v2,str v3,str v4,str v5,.int .i64 v6,.int .i64 v7,.int .i64 v8,.slice none 0 0] 36 (0,0))::[]))) from .refl _) (Zz 6 ?_)
 refine d_ (bC_ rfl rfl rfl (cZ_ (by first|omega|(have:=gS_ hq8;omega)) (by first|omega|(have:=gS_ hq8;omega)))) rfl ?_
 refine Zz 1 ?_
 refine w_ 2 aq_ rfl rfl rfl rfl rfl rfl (Zz 10 ?_)
 have hbd:=qU_ hq9
 refine av_ (ι:={y:Nat×List Int×Dst×Value×Hp // (y.1:Int)≤v9∧fU_ (Int.toNat v9) d5.r=(fU_ (Int.toNat v9 - y.1) y.2.2.1.r).map (fun z=>(y.2.1++z.1,z.2))∧Dst.ok y.2.2.1∧List.length y.2.1=y.1∧zR 3 1 dY_ y.2.2.2.1 y.2.1 y.2.2.2.2}) (fun y=>[(0,zp_ db 0),(2,zp_ b1 0),(50,.int .i64 v9),(51,.int .i64 (y.1.1:Int))]) (fun y=>((b1,.cells #[.int .i64 v1,.int .i64 v2,str v3,str v4,str v5,.int .i64 v6,.int .i64 v7,.int .i64 (v8 - 1),y.1.2.2.2.1] 36 (0,0))::((db,.cells #[.slice (Dst.ad y.1.2.2.1) (List.length (Dst.r y.1.2.2.1)) (Dst.cap y.1.2.2.1)] 92 (0,0))::y.1.2.2.2.2))) (fun y=>[at_ (Dst.ad y.1.2.2.1) (List.flatMap u8C (Dst.r y.1.2.2.1))]) (fun y=>Int.toNat v9 - y.1.1) ⟨((0:Nat),([]:List Int),d5,(.slice none 0 0),[]),(by dsimp only;omega),(by simp),hd5,rfl,(bA_.nil _ _)⟩ zl (o_ (c_ (c_ e_)) (c_ e_)) zf ?_
 rintro ⟨⟨i,l,e,sv_F,H_F⟩,hi,hI,he,hll,hr_F⟩
 dsimp only at hi hI he hll hr_F ⊢
 refine Zi 2 (fun hr1=>?_) fun hr1=>?_
 ·refine Zz 7 ?_
  have hI9:=rS_ hI (by omega)
  refine dz_ hr_F (c_ P_) fun fad fcap hfad hcfad hmfad hzfad=>?_
  subst hfad
  refine Zz 2 ?_
  refine w_ 0 aZ_ rfl rfl rfl rfl rfl rfl (Zz 3 ?_)
  have hfin:iy_ d.r=some (Stp.ds (Stp.mk v1 (Fc.mk v2 v3 v4 v5 v6 v7) (v8 - 1) fad fcap l),e.r):=by rw[ez_];simp only[hq1,hq2,hq3,hq4,hq5,hq6,hq7,hq8,hq9,Option.bind_some];rw[hI9];rfl
  exact cf_ (ej_ ⟨((Stp.mk v1 (Fc.mk v2 v3 v4 v5 v6 v7) (v8 - 1) fad fcap l),e),hfin,he⟩ (fun aa v h1 h2=>cd_ (us:=Stp.cells (Stp.mk v1 (Fc.mk v2 v3 v4 v5 v6 v7) (v8 - 1) fad fcap l)) 0 Tryz.results44 Tryz.isAgg36 aZ_ rfl rfl rfl aa v h1 h2) (c_ e_) zf)
 refine Zz 8 ?_
 refine ax_ ([]) zk ?_
 refine n_ 6 [0,2] zk zs (Zz 3 ?_)
 refine bN_ 1 3 rfl rfl zk ?_ ?_
 ·refine Zz 4 ?_
  refine i_ 3 rfl zk (aa_ (iR_ db e he) rfl zp zf rfl (fun hb=>cF_ ((by rw[ez_];simp only[hq1,hq2,hq3,hq4,hq5,hq6,hq7,hq8,hq9,Option.bind_some];rw[lQ_ hI (by omega) hb];rfl))) fun⟨⟨rv,e1⟩,hi1,he1⟩=>?_)
  try dsimp only
  refine Zz 3 ?_
  refine i_ 4 rfl zk (ap_ aG_ aq_ cx_ rfl rfl rfl rfl rfl rfl fun b8=>Zz 3 ?_)
  refine i_ 5 rfl zk (aH_ (news:=List.flatMap dY_ [rv]) mH_ hr_F rfl rfl zp rfl (bJ_ 0 rfl) (fun u hu=>ba_ kJ_ hu) (by simp only[maxLen];omega) (by omega) rfl fun sv1 Hr1 hr1=>?_)
  refine ac_ List.perm_append_comm ?_
  have hq1:=zsa hr1
  refine Zz 3 ?_
  refine n_ 1 [6] zk zs (Zz 2 ?_)
  refine i_ 7 rfl zk (bx_ 2 hq1 tX_ rfl rfl rfl rfl (Zz 6 ?_))
  refine d_ (bC_ rfl rfl rfl (cZ_ (by first|omega|(have:=gS_ hq8;omega)) (by first|omega|(have:=gS_ hq8;omega)))) rfl ?_
  refine Zz 3 ?_
  exact Q_ ⟨(i+1,(l++[rv]),e1,sv1,Hr1),(by omega),ji_ hI (by omega) hi1,he1,(by rw[List.length_append,hll];rfl),hq1⟩ (by dsimp only;omega) zl (o_ (c_ (c_ e_)) (o_ (c_ e_) P_)) zf
 refine aa_ (iR_ db e he) rfl zp zf rfl (fun hb=>cF_ ((by rw[ez_];simp only[hq1,hq2,hq3,hq4,hq5,hq6,hq7,hq8,hq9,Option.bind_some];rw[lQ_ hI (by omega) hb];rfl))) fun⟨⟨rv,e1⟩,hi1,he1⟩=>?_
 try dsimp only
 refine Zz 3 ?_
 refine bN_ 1 4 rfl rfl zk ?_ ?_
 ·refine Zz 4 ?_
  refine i_ 4 rfl zk (ap_ aG_ aq_ cx_ rfl rfl rfl rfl rfl rfl fun b9=>Zz 3 ?_)
  refine i_ 5 rfl zk (aH_ (news:=List.flatMap dY_ [rv]) mH_ hr_F rfl rfl zp rfl (bJ_ 0 rfl) (fun u hu=>ba_ kJ_ hu) (by simp only[maxLen];omega) (by omega) rfl fun sv2 Hr2 hr2=>?_)
  refine ac_ List.perm_append_comm ?_
  have hq2:=zsa hr2
  refine Zz 3 ?_
  refine n_ 1 [6] zk zs (Zz 2 ?_)
  refine i_ 7 rfl zk (bx_ 2 hq2 tX_ rfl rfl rfl rfl (Zz 6 ?_))
  refine d_ (bC_ rfl rfl rfl (cZ_ (by first|omega|(have:=gS_ hq8;omega)) (by first|omega|(have:=gS_ hq8;omega)))) rfl ?_
  refine Zz 3 ?_
  exact Q_ ⟨(i+1,(l++[rv]),e1,sv2,Hr2),(by omega),ji_ hI (by omega) hi1,he1,(by rw[List.length_append,hll];rfl),hq2⟩ (by dsimp only;omega) zl (o_ (c_ (c_ e_)) (o_ (c_ e_) P_)) zf
 refine ap_ aG_ aq_ cx_ rfl rfl rfl rfl rfl rfl fun b10=>Zz 3 ?_
 refine i_ 1 rfl zk (Zz 4 ?_)
 refine i_ 5 rfl zk (aH_ (news:=List.flatMap dY_ [rv]) mH_ hr_F rfl rfl zp rfl (bJ_ 0 rfl) (fun u hu=>ba_ kJ_ hu) (by simp only[maxLen];omega) (by omega) rfl fun sv3 Hr3 hr3=>?_)
 refine ac_ List.perm_append_comm ?_
 have hq3:=zsa hr3
 refine Zz 3 ?_
 refine n_ 1 [6] zk zs (Zz 2 ?_)
 refine i_ 7 rfl zk (bx_ 2 hq3 tX_ rfl rfl rfl rfl (Zz 6 ?_))
 refine d_ (bC_ rfl rfl rfl (cZ_ (by first|omega|(have:=gS_ hq8;omega)) (by first|omega|(have:=gS_ hq8;omega)))) rfl ?_
 refine Zz 3 ?_
 exact Q_ ⟨(i+1,(l++[rv]),e1,sv3,Hr3),(by omega),ji_ hI (by omega) hi1,he1,(by rw[List.length_append,hll];rfl),hq3⟩ (by dsimp only;omega) zl (o_ (c_ (c_ e_)) (o_ (c_ e_) P_)) zf
end Go.Proofs.YtaffcjgphlhppaaGreatDoor
namespace Go.Proofs.YtaffcjgphlhppaaGreatDoor
open Go Go.Sx Go.Proofs
attribute [local irreducible] Code.wp wpList wpAnyH
open Go.Vs
theorem si_ {v:Vw} {F F':Hp} {b c:Nat} {x y:Value} (hF:F.Perm ((b,.cells #[x] 27 (0,0))::(c,.cells #[y] 31 (0,0))::F')) (t:TypeId) (u:Value) (hs:v.sat F) :
    CallsD Tryz.prog 41 #[zp_ b 0,zp_ c 0] (.panicking (ld_ t u)) v.w fun e u' w'=>e=.returned (.tuple #[])∧u'=.panicking [{ v:=.iface t u,recovered:=true }]∧∃ v':Vw,v'.w=w'∧v'.sat ((b,.cells #[.slice none 0 0] 27 (0,0))::(c,.cells #[.int .i64 120] 31 (0,0))::F')∧v.to F v' ((b,.cells #[.slice none 0 0] 27 (0,0))::(c,.cells #[.int .i64 120] 31 (0,0))::F'):=by
  have h2:=hs.perm hF
  have hb:=(h2.own _ List.mem_cons_self).1
  have hbc:b≠c:=by
    have:=h2.nodup
    simp only[List.map_cons,List.nodup_cons,List.mem_cons,not_or]at this
    exact this.1.1
  have hcb:v.w.cell? ⟨b,0,none⟩=some x:=by simp[World.cell?,hb]
  have hzb:v.w.frozen? ⟨b,0,none⟩=false:=by simp[World.frozen?,hb]
  have hset:((v.w.setCell ⟨b,0,none⟩ (.slice none 0 0)).heap)[b]? = some (.cells #[.slice none 0 0] 27 (0,0)):=by
    simp[World.setCell,Array.getElem?_modify,hb]
  have hoth:∀ k,k≠b→((v.w.setCell ⟨b,0,none⟩ (.slice none 0 0)).heap)[k]? = v.w.heap[k]? := fun k hk=>by
    simp[World.setCell,Array.getElem?_modify,Ne.symm hk]
  obtain⟨g1,g2⟩:=eS_ (i:=0) (o':=.cells #[.slice none 0 0] 27 (0,0)) (w':=v.w.setCell ⟨b,0,none⟩ (.slice none 0 0)) h2 rfl rfl rfl rfl (Nat.le_refl _) (by simp[World.setCell]) hset hoth
  simp only[List.set_cons_zero]at g1 g2
  generalize hw:v.w.setCell ⟨b,0,none⟩ (.slice none 0 0)=w1 at g1 g2
  have hc:=(g1.own _ (List.mem_cons_of_mem _ List.mem_cons_self)).1
  simp only at hc
  have hcc:w1.cell? ⟨c,0,none⟩=some y:=by simp[World.cell?,hc]
  have hzc:w1.frozen? ⟨c,0,none⟩=false:=by simp[World.frozen?,hc]
  have hset2:((w1.setCell ⟨c,0,none⟩ (.int .i64 120)).heap)[c]? = some (.cells #[.int .i64 120] 31 (0,0)):=by
    simp[World.setCell,Array.getElem?_modify,hc]
  have hoth2:∀ k,k≠c→((w1.setCell ⟨c,0,none⟩ (.int .i64 120)).heap)[k]? = w1.heap[k]? := fun k hk=>by
    simp[World.setCell,Array.getElem?_modify,Ne.symm hk]
  obtain⟨k1,k2⟩:=eS_ (i:=1) (o':=.cells #[.int .i64 120] 31 (0,0)) (w':=w1.setCell ⟨c,0,none⟩ (.int .i64 120)) g1 rfl rfl rfl rfl (Nat.le_refl _) (by simp[World.setCell]) hset2 hoth2
  simp only[List.set_cons_succ,List.set_cons_zero]at k1 k2
  refine callsD_of_wpS Tryz.func41 rfl fun c₀ cs hu=>?_
  apply wpS_seq
  apply wpS_region
  simp[wpOpsS,go_sem,recoverD,hu,ld_,Tryz.ntmps41,Exit.thenS]
  refine wpS_cond (t:=true) (by simp[Act.eval,Array.replicate]) ?_
  simp only[if_true]
  apply wpS_region
  simp[wpOpsS,go_sem,Instr.build,hcb,hzb,hw,hcc,hzc,bodyPostS,results,Tryz.results41,hW_,bl_,gn_,tY_]
  exact⟨_,rfl,k1,(g2.trans k2).permL hF.symm⟩
theorem tv_ (b c:Nat) (w:World):CallsD Tryz.prog 41 #[zp_ b 0,zp_ c 0] .returning w fun e u' w'=>e=.returned (.tuple #[])∧u'=.returning∧w'=w:=by
  refine callsD_of_wpS Tryz.func41 rfl fun c₀ cs hu=>?_
  apply wpS_seq
  apply wpS_region
  simp[wpOpsS,go_sem,recoverD,hu,Tryz.ntmps41,Exit.thenS]
  refine wpS_cond (t:=false) (by simp[Act.eval,Array.replicate]) ?_
  simp only[Bool.false_eq_true,if_false]
  refine wpS_of_wp (wp_skip ?_)
  cases c₀
  simp_all [bodyPostS,results,Tryz.results41]
theorem rR_ (b c:Nat) (w:World):(invoke (.fn (.func 41) #[zp_ b 0,zp_ c 0]) #[]).run Tryz.prog w=.ok (.enter 41 #[zp_ b 0,zp_ c 0]) w:=by
  exact callable (P:=Tryz.prog) Tryz.func41 rfl rfl #[zp_ b 0,zp_ c 0] w
def sq_ (r:Str) (l:List Stp) (e:Int):Prop:=(oG_ r=some (l.map Stp.ds)∧e=0)∨(oG_ r=none∧l=[]∧e=120)
theorem eP_ {n i:Nat} {l:List Ds} {r:Str} {X:Option (List Ds×Str)} (hX:X=(ey_ (n - i) r).map fun z=>(l++z.1,z.2)) (hi:i<n) (h:iy_ r=none):X=none:=by
  obtain⟨k,hk⟩:∃ k,n - i=k+1:=⟨n - i - 1,by omega⟩
  rw[hX,hk,ey_,h];rfl
theorem dg_ {n i:Nat} {l:List Ds} {r r':Str} {v:Ds} {X:Option (List Ds×Str)} (hX:X=(ey_ (n - i) r).map fun z=>(l++z.1,z.2)) (hi:i<n) (h:iy_ r=some (v,r')):X=(ey_ (n - (i+1)) r').map fun z=>((l++[v])++z.1,z.2):=by
  obtain⟨k,hk⟩:∃ k,n - i=k+1:=⟨n - i - 1,by omega⟩
  rw[hX,hk,show n - (i+1)=k by omega,ey_,h,Option.bind_some,Option.map_map]
  congr 1
  funext z
  simp
theorem lv_ {n i:Nat} {l:List Ds} {r:Str} {X:Option (List Ds×Str)} (hX:X=(ey_ (n - i) r).map fun z=>(l++z.1,z.2)) (hi:n≤i):X=some (l,r):=by
  rw[hX,show n - i=0 by omega];simp[ey_]
theorem panDg {P:Program} {fr:Fr} {N:Nat} {fn:Func} {ι:Type} {v0:Vw} {H0 F HF' F':Hp} {ret:ι→Value} {H':ι→Hp} {Γ':ι→List Fct} {fv:Fn} {cap dargs:Array Value} {g:FuncId} {cargs:Array Value} (x:ι)
    (hi:∀ w,(invoke (.fn fv cap) dargs).run P w=.ok (.enter g cargs) w)
    (hc:∀ (v:Vw) t u,v.sat F→CallsD P g cargs (.panicking (ld_ t u)) v.w fun e u' w'=>e=.returned (.tuple #[])∧u'=.panicking [{ v:=.iface t u,recovered:=true }]∧∃ v':Vw,v'.w=w'∧v'.sat HF'∧v.to F v' HF')
    (hx:∀ (a:Act) (v:Vw),Fr.sat ⟨N,[{ target:=.fn fv cap,args:=dargs }]⟩ fr a→v.sat HF'→(results fn a.tmps).run P v.w=.ok (ret x) v.w) (hH:HF'.Perm (H' x++F')) (hΓ:∀ v,aj_ (Γ' x) v) :
    iT_ (bodyPostD P fn (gi_ v0 H0 ret H' Γ')) ⟨N,[{ target:=.fn fv cap,args:=dargs }]⟩ v0 H0 fr F:=fun a v t u h1 h2 h3=>by
  show Leaves P fn a.tmps _ a.defers (.panicking (ld_ t u)) v.w
  rw[h1.defers]
  refine leaves_cons (by simp) (hi v.w) ?_
  refine (hc v t u h2).mono ?_
  rintro e u' w' ⟨rfl,rfl,v',rfl,k1,k2⟩
  have h3':=h3.trans k2
  exact⟨ret x,hx a v' h1 k1,x,v',rfl,rfl,(k1.perm hH).sub,hΓ v',h3'.subR fun b hb=>by
    have:b∈(H' x++F').map Prod.fst:=by rw[List.map_append];exact List.mem_append_left _ hb
    exact (hH.map Prod.fst).mem_iff.2 this⟩
theorem pa_ {P:Program} {N:Nf} {fr:Fr} {H:Hp} {fn:Func} {t s b c:Nat} {ty ty2 T T2:TypeId} {u u2:Value} (i j:Nat) (hr:fn.results=#[.cell t ty,.cell s ty2]) (ha:∀ w,(isAgg ty).run P w=.ok true w) (hs:∀ w,(sizeOf ty).run P w=.ok 1 w) (ha2:∀ w,(isAgg ty2).run P w=.ok false w)
    (hx:Fr.get fr t=some (zp_ b 0)) (hx2:Fr.get fr s=some (zp_ c 0)) (hi:H[i]? = some (b,.cells #[u] T (0,0))) (hj:H[j]? = some (c,.cells #[u2] T2 (0,0))) (a:Act) (v:Vw) (h1:Fr.sat N fr a) (h2:v.sat H) :
    (results fn a.tmps).run P v.w=.ok (.tuple #[.agg #[u],u2]) v.w:=by
  have e:=h1.val t _ hx
  have e2:=h1.val s _ hx2
  have hl:=cl_ (t:=ty) (w:=v.w) (b:=b) (off:=0) (cs:=[u]) ha hs rfl (fun j y hj=>by rw[Nat.zero_add,fb_ h2 hi];simpa using hj)
  have hb:=(h2.own _ (List.mem_of_getElem? hj)).1
  have hc:v.w.cell? ⟨c,0,none⟩=some u2:=by simp[World.cell?,hb]
  simp[results,hr,e,e2,asAddr,hl,bY_ ha2 hc]
theorem Stp.cells_one (s:Stp):s.cells.all Value.oneCell'=true:=rfl
theorem gM_ {v0:Vw} {H0 F F':Hp} {fr:Fr} {b c:Nat} {x y:Value} {r:Str} (hX:oG_ r=none) (hx:Fr.get fr 2=some (zp_ b 0)) (hx2:Fr.get fr 3=some (zp_ c 0)) (hF:F.Perm ((b,.cells #[x] 27 (0,0))::(c,.cells #[y] 31 (0,0))::F')) :
    iT_ (bodyPostD Tryz.prog Tryz.f17 (gi_ v0 H0 (fun y:{y:(List Stp×Option Addr×Nat)×Int // sq_ r y.1.1 y.2∧y.1.1.length≤y.1.2.2∧y.1.2.2≤maxLen∧(y.1.2.1=none→y.1.2.2=0)}=>.tuple #[.agg #[.slice y.1.1.2.1 (List.length y.1.1.1) y.1.1.2.2],.int .i64 y.1.2]) (fun _=>[]) (fun y=>[at_ y.1.1.2.1 (List.flatMap Stp.cells y.1.1.1),dD_ y.1.1.1]))) ⟨34,[{ target:=.fn (.func 41) #[zp_ b 0,zp_ c 0],args:=#[] }]⟩ v0 H0 fr F :=
  panDg (F':=(b,.cells #[.slice none 0 0] 27 (0,0))::(c,.cells #[.int .i64 120] 31 (0,0))::F') ⟨(([],none,0),120),.inr ⟨hX,rfl,rfl⟩,Nat.le_refl _,Nat.zero_le _,fun _=>rfl⟩ (rR_ b c) (fun v t u hs=>si_ hF t u hs)
    (fun a v h1 h2=>pa_ 0 1 Tryz.results17 Tryz.isAgg27 gn_ Tryz.isAgg31 hx hx2 rfl rfl a v h1 h2) (.refl _) (fun v=>⟨.inl rfl,hE_,trivial⟩)
theorem eV_:Elt Tryz.prog 25 36 9 112:=kS_ Tryz.underlying25 (z:=.agg #[.int .i64 0,.int .i64 0,str [],str [],str [],.int .i64 0,.int .i64 0,.int .i64 0,.slice none 0 0]) (by kernel_rfl) rfl (by decide)
theorem strt92:hy_ Tryz.prog 92 [(0,1)] [.slice none 0 0]:=⟨_,Tryz.zeroValue92,cK_,fun w=>by simp[Tryz.sizeOf39]⟩
theorem nZ_ (r:Str) (ad:Option Addr) (cap:Nat) (hok:Dst.ok (Dst.mk ad cap r)):Tri Tryz.prog 17 #[.slice ad (List.length r) cap] [] [at_ ad (List.flatMap u8C r)] (fun y:{y:(List Stp×Option Addr×Nat)×Int // sq_ r y.1.1 y.2∧y.1.1.length≤y.1.2.2∧y.1.2.2≤maxLen∧(y.1.2.1=none→y.1.2.2=0)}=>.tuple #[.agg #[.slice y.1.1.2.1 (List.length y.1.1.1) y.1.1.2.2],.int .i64 y.1.2]) (fun _=>[]) (fun y=>[at_ y.1.1.2.1 (List.flatMap Stp.cells y.1.1.1),dD_ y.1.1.1]):=by
 refine is_ Tryz.func17 rfl rfl Tryz.ntmps17 rfl fun v0=>?_
 refine Zz 2 ?_
 refine C_ hW_ rfl fun b1=>C_ Tryz.zeroValue31 rfl fun b2=>Zz 4 ?_
 refine d_ (bI_ rfl rfl) rfl (lG_ (N:=34) (D:=[]) rfl rfl rfl (Zz 5 ?_))
 refine d_ (K_ strt92 rfl rfl) rfl (ag_ rfl rfl fun b3=>Zz 6 ?_)
 refine aa_ (iR_ b3 (Dst.mk ad cap r) hok) rfl e_ zf rfl (fun hb=>gM_ (r:=r) ((by rw[eJ_,hb];rfl)) rfl rfl (o_ (c_ e_) e_)) fun⟨⟨nv,d1⟩,hq1,hd1⟩=>?_
 try dsimp only
 refine Zz 6 ?_
 refine O_ (dV_ rfl rfl) rfl fun r1 hr1=>?_
 refine aa_ (dI_ r1) rfl g_ zt rfl (fun hb=>gM_ (r:=r) ((by rw[eJ_,hq1,Option.bind_some,if_neg (fun q=>by rw[hb]at hr1;simp at hr1;omega)])) rfl rfl (o_ (c_ (c_ e_)) (c_ e_))) fun⟨_,hn1⟩=>?_
 try dsimp only
 have hn1:nv≤65536:=by have z:=hr1;rw[hn1]at z;simp at z;omega
 refine Zz 10 ?_
 have hbd:=gS_ hq1
 refine av_ (ι:={y:Nat×List Stp×Dst×Value×Hp // (y.1:Int)≤nv∧ey_ (Int.toNat nv) d1.r=(ey_ (Int.toNat nv - y.1) y.2.2.1.r).map (fun z=>(List.map Stp.ds y.2.1++z.1,z.2))∧Dst.ok y.2.2.1∧List.length y.2.1=y.1∧zR 36 9 Stp.cells y.2.2.2.1 y.2.1 y.2.2.2.2}) (fun y=>[(2,zp_ b1 0),(3,zp_ b2 0),(4,zp_ b3 0),(15,.int .i64 nv),(16,.int .i64 (y.1.1:Int))]) (fun y=>((b1,.cells #[y.1.2.2.2.1] 27 (0,0))::((b2,.cells #[.int .i64 0] 31 (0,0))::((b3,.cells #[.slice (Dst.ad y.1.2.2.1) (List.length (Dst.r y.1.2.2.1)) (Dst.cap y.1.2.2.1)] 92 (0,0))::y.1.2.2.2.2)))) (fun y=>[at_ (Dst.ad y.1.2.2.1) (List.flatMap u8C (Dst.r y.1.2.2.1)),dD_ y.1.2.1]) (fun y=>Int.toNat nv - y.1.1) ⟨((0:Nat),([]:List Stp),d1,(.slice none 0 0),[]),(by dsimp only;omega),(by simp),hd1,rfl,(bA_.nil _ _)⟩ zl zp (fun v _ h=>by exact⟨h.1,hE_,trivial⟩) ?_
 rintro ⟨⟨i,l,e,sv_S,H_S⟩,hi,hI,he,hll,hr_S⟩
 dsimp only at hi hI he hll hr_S ⊢
 refine Zi 2 (fun hr2=>?_) fun hr2=>?_
 ·refine Zz 13 ?_
  refine O_ (bf_ rfl rfl) rfl fun r3 hr3=>?_
  refine aa_ (dI_ r3) rfl g_ zt rfl (fun hb=>gM_ (r:=r) ((by rw[eJ_,hq1,Option.bind_some,if_pos hn1,lv_ hI (by omega),Option.bind_some,if_neg (fun q=>by dsimp only at q;rw[q,hb]at hr3;simp at hr3)])) rfl rfl zp) fun⟨_,hn2⟩=>?_
  try dsimp only
  have hn2:e.r=[]:=by have z:=hr3;rw[hn2]at z;simpa using z
  refine Zz 3 ?_
  refine dz_ hr_S (c_ (c_ P_)) fun sad scap hsad hcsad hmsad hzsad=>?_
  subst hsad
  refine Zz 2 ?_
  refine w_ 0 gn_ rfl rfl rfl rfl rfl rfl (w_ 1 tY_ rfl rfl rfl rfl rfl rfl (Zz 3 ?_))
  have hfin:sq_ r l 0:=.inl ⟨by rw[eJ_,hq1,Option.bind_some,if_pos hn1,lv_ hI (by omega),Option.bind_some,if_pos hn2],rfl⟩
  exact rj_ (F:=_) ⟨((l,sad,scap),0),hfin,hcsad,hmsad,hzsad⟩ (rR_ b1 b2) (tv_ b1 b2) (fun a v h1 h2=>pa_ 0 1 Tryz.results17 Tryz.isAgg27 gn_ Tryz.isAgg31 rfl rfl rfl rfl a v h1 h2) g_ zf
 refine Zz 8 ?_
 refine ax_ ([]) zk ?_
 refine bN_ 0 2 rfl rfl zk ?_ ?_
 ·refine Zz 4 ?_
  refine bN_ 1 2 rfl rfl zk ?_ ?_
  ·refine Zz 4 ?_
   refine i_ 2 rfl zk (Zz 4 ?_)
   refine i_ 3 rfl zk (aa_ (hS_ b3 e he) rfl zp zf rfl (fun hb=>gM_ (r:=r) ((by rw[eJ_,hq1,Option.bind_some,if_pos hn1,eP_ hI (by omega) hb];rfl)) rfl rfl zp) fun⟨⟨sp,e1⟩,hs1,he1⟩=>?_)
   try dsimp only
   refine Zz 3 ?_
   refine i_ 4 rfl zk (ap_ ao_ aZ_ bb_ rfl rfl rfl rfl rfl rfl fun b4=>Zz 3 ?_)
   refine i_ 5 rfl zk (aH_ (news:=List.flatMap Stp.cells [sp]) eV_ hr_S rfl rfl zp rfl (bJ_ 0 rfl) (fun u hu=>ba_ Stp.cells_one hu) (by simp only[maxLen];omega) (by omega) rfl fun sv1 Hr1 hr1=>?_)
   refine ac_ List.perm_append_comm ?_
   have hq1:=zsa hr1
   refine Zz 3 ?_
   refine i_ 6 rfl zk (Zz 4 ?_)
   refine i_ 7 rfl zk (bx_ 2 hq1 bX_ rfl rfl rfl rfl (Zz 10 ?_))
   exact Q_ ⟨(i+1,(l++[sp]),e1,sv1,Hr1),(by omega),(by rw[List.map_append];exact dg_ hI (by omega) hs1),he1,(by rw[List.length_append,hll];rfl),hq1⟩ (by dsimp only;omega) zl (o_ (c_ (c_ e_)) (o_ (c_ (c_ e_)) (o_ (c_ e_) P_))) (fun v _ h=>by exact⟨h.2.1,df_ h.2.2.2.1 h.1,trivial⟩)
  refine Zz 4 ?_
  refine bN_ 1 3 rfl rfl zk ?_ ?_
  ·refine Zz 4 ?_
   refine i_ 3 rfl zk (aa_ (hS_ b3 e he) rfl zp zf rfl (fun hb=>gM_ (r:=r) ((by rw[eJ_,hq1,Option.bind_some,if_pos hn1,eP_ hI (by omega) hb];rfl)) rfl rfl zp) fun⟨⟨sp,e1⟩,hs1,he1⟩=>?_)
   try dsimp only
   refine Zz 3 ?_
   refine i_ 4 rfl zk (ap_ ao_ aZ_ bb_ rfl rfl rfl rfl rfl rfl fun b5=>Zz 3 ?_)
   refine i_ 5 rfl zk (aH_ (news:=List.flatMap Stp.cells [sp]) eV_ hr_S rfl rfl zp rfl (bJ_ 0 rfl) (fun u hu=>ba_ Stp.cells_one hu) (by simp only[maxLen];omega) (by omega) rfl fun sv2 Hr2 hr2=>?_)
   refine ac_ List.perm_append_comm ?_
   have hq2:=zsa hr2
   refine Zz 3 ?_
   refine i_ 6 rfl zk (Zz 4 ?_)
   refine i_ 7 rfl zk (bx_ 2 hq2 bX_ rfl rfl rfl rfl (Zz 10 ?_))
   exact Q_ ⟨(i+1,(l++[sp]),e1,sv2,Hr2),(by omega),(by rw[List.map_append];exact dg_ hI (by omega) hs1),he1,(by rw[List.length_append,hll];rfl),hq2⟩ (by dsimp only;omega) zl (o_ (c_ (c_ e_)) (o_ (c_ (c_ e_)) (o_ (c_ e_) P_))) (fun v _ h=>by exact⟨h.2.1,df_ h.2.2.2.1 h.1,trivial⟩)
  refine aa_ (hS_ b3 e he) rfl zp zf rfl (fun hb=>gM_ (r:=r) ((by rw[eJ_,hq1,Option.bind_some,if_pos hn1,eP_ hI (by omega) hb];rfl)) rfl rfl zp) fun⟨⟨sp,e1⟩,hs1,he1⟩=>?_
  try dsimp only
  refine Zz 3 ?_
  refine bN_ 1 4 rfl rfl zk ?_ ?_
  ·refine Zz 4 ?_
   refine i_ 4 rfl zk (ap_ ao_ aZ_ bb_ rfl rfl rfl rfl rfl rfl fun b6=>Zz 3 ?_)
   refine i_ 5 rfl zk (aH_ (news:=List.flatMap Stp.cells [sp]) eV_ hr_S rfl rfl zp rfl (bJ_ 0 rfl) (fun u hu=>ba_ Stp.cells_one hu) (by simp only[maxLen];omega) (by omega) rfl fun sv3 Hr3 hr3=>?_)
   refine ac_ List.perm_append_comm ?_
   have hq3:=zsa hr3
   refine Zz 3 ?_
   refine i_ 6 rfl zk (Zz 4 ?_)
   refine i_ 7 rfl zk (bx_ 2 hq3 bX_ rfl rfl rfl rfl (Zz 10 ?_))
   exact Q_ ⟨(i+1,(l++[sp]),e1,sv3,Hr3),(by omega),(by rw[List.map_append];exact dg_ hI (by omega) hs1),he1,(by rw[List.length_append,hll];rfl),hq3⟩ (by dsimp only;omega) zl (o_ (c_ (c_ e_)) (o_ (c_ (c_ e_)) (o_ (c_ e_) P_))) (fun v _ h=>by exact⟨h.2.1,df_ h.2.2.2.1 h.1,trivial⟩)
  refine ap_ ao_ aZ_ bb_ rfl rfl rfl rfl rfl rfl fun b7=>Zz 3 ?_
  refine i_ 1 rfl zk (Zz 4 ?_)
  refine i_ 5 rfl zk (aH_ (news:=List.flatMap Stp.cells [sp]) eV_ hr_S rfl rfl zp rfl (bJ_ 0 rfl) (fun u hu=>ba_ Stp.cells_one hu) (by simp only[maxLen];omega) (by omega) rfl fun sv4 Hr4 hr4=>?_)
  refine ac_ List.perm_append_comm ?_
  have hq4:=zsa hr4
  refine Zz 3 ?_
  refine i_ 6 rfl zk (Zz 4 ?_)
  refine i_ 7 rfl zk (bx_ 2 hq4 bX_ rfl rfl rfl rfl (Zz 10 ?_))
  exact Q_ ⟨(i+1,(l++[sp]),e1,sv4,Hr4),(by omega),(by rw[List.map_append];exact dg_ hI (by omega) hs1),he1,(by rw[List.length_append,hll];rfl),hq4⟩ (by dsimp only;omega) zl (o_ (c_ (c_ e_)) (o_ (c_ (c_ e_)) (o_ (c_ e_) P_))) (fun v _ h=>by exact⟨h.2.1,df_ h.2.2.2.1 h.1,trivial⟩)
 refine Zz 4 ?_
 refine bN_ 0 3 rfl rfl zk ?_ ?_
 ·refine Zz 4 ?_
  refine bN_ 1 3 rfl rfl zk ?_ ?_
  ·refine Zz 4 ?_
   refine i_ 3 rfl zk (aa_ (hS_ b3 e he) rfl zp zf rfl (fun hb=>gM_ (r:=r) ((by rw[eJ_,hq1,Option.bind_some,if_pos hn1,eP_ hI (by omega) hb];rfl)) rfl rfl zp) fun⟨⟨sp,e1⟩,hs1,he1⟩=>?_)
   try dsimp only
   refine Zz 3 ?_
   refine i_ 4 rfl zk (ap_ ao_ aZ_ bb_ rfl rfl rfl rfl rfl rfl fun b8=>Zz 3 ?_)
   refine i_ 5 rfl zk (aH_ (news:=List.flatMap Stp.cells [sp]) eV_ hr_S rfl rfl zp rfl (bJ_ 0 rfl) (fun u hu=>ba_ Stp.cells_one hu) (by simp only[maxLen];omega) (by omega) rfl fun sv5 Hr5 hr5=>?_)
   refine ac_ List.perm_append_comm ?_
   have hq5:=zsa hr5
   refine Zz 3 ?_
   refine i_ 6 rfl zk (Zz 4 ?_)
   refine i_ 7 rfl zk (bx_ 2 hq5 bX_ rfl rfl rfl rfl (Zz 10 ?_))
   exact Q_ ⟨(i+1,(l++[sp]),e1,sv5,Hr5),(by omega),(by rw[List.map_append];exact dg_ hI (by omega) hs1),he1,(by rw[List.length_append,hll];rfl),hq5⟩ (by dsimp only;omega) zl (o_ (c_ (c_ e_)) (o_ (c_ (c_ e_)) (o_ (c_ e_) P_))) (fun v _ h=>by exact⟨h.2.1,df_ h.2.2.2.1 h.1,trivial⟩)
  refine aa_ (hS_ b3 e he) rfl zp zf rfl (fun hb=>gM_ (r:=r) ((by rw[eJ_,hq1,Option.bind_some,if_pos hn1,eP_ hI (by omega) hb];rfl)) rfl rfl zp) fun⟨⟨sp,e1⟩,hs1,he1⟩=>?_
  try dsimp only
  refine Zz 3 ?_
  refine bN_ 1 4 rfl rfl zk ?_ ?_
  ·refine Zz 4 ?_
   refine i_ 4 rfl zk (ap_ ao_ aZ_ bb_ rfl rfl rfl rfl rfl rfl fun b9=>Zz 3 ?_)
   refine i_ 5 rfl zk (aH_ (news:=List.flatMap Stp.cells [sp]) eV_ hr_S rfl rfl zp rfl (bJ_ 0 rfl) (fun u hu=>ba_ Stp.cells_one hu) (by simp only[maxLen];omega) (by omega) rfl fun sv6 Hr6 hr6=>?_)
   refine ac_ List.perm_append_comm ?_
   have hq6:=zsa hr6
   refine Zz 3 ?_
   refine i_ 6 rfl zk (Zz 4 ?_)
   refine i_ 7 rfl zk (bx_ 2 hq6 bX_ rfl rfl rfl rfl (Zz 10 ?_))
   exact Q_ ⟨(i+1,(l++[sp]),e1,sv6,Hr6),(by omega),(by rw[List.map_append];exact dg_ hI (by omega) hs1),he1,(by rw[List.length_append,hll];rfl),hq6⟩ (by dsimp only;omega) zl (o_ (c_ (c_ e_)) (o_ (c_ (c_ e_)) (o_ (c_ e_) P_))) (fun v _ h=>by exact⟨h.2.1,df_ h.2.2.2.1 h.1,trivial⟩)
  refine ap_ ao_ aZ_ bb_ rfl rfl rfl rfl rfl rfl fun b10=>Zz 3 ?_
  refine i_ 1 rfl zk (Zz 4 ?_)
  refine i_ 5 rfl zk (aH_ (news:=List.flatMap Stp.cells [sp]) eV_ hr_S rfl rfl zp rfl (bJ_ 0 rfl) (fun u hu=>ba_ Stp.cells_one hu) (by simp only[maxLen];omega) (by omega) rfl fun sv7 Hr7 hr7=>?_)
  refine ac_ List.perm_append_comm ?_
  have hq7:=zsa hr7
  refine Zz 3 ?_
  refine i_ 6 rfl zk (Zz 4 ?_)
  refine i_ 7 rfl zk (bx_ 2 hq7 bX_ rfl rfl rfl rfl (Zz 10 ?_))
  exact Q_ ⟨(i+1,(l++[sp]),e1,sv7,Hr7),(by omega),(by rw[List.map_append];exact dg_ hI (by omega) hs1),he1,(by rw[List.length_append,hll];rfl),hq7⟩ (by dsimp only;omega) zl (o_ (c_ (c_ e_)) (o_ (c_ (c_ e_)) (o_ (c_ e_) P_))) (fun v _ h=>by exact⟨h.2.1,df_ h.2.2.2.1 h.1,trivial⟩)
 refine aa_ (hS_ b3 e he) rfl zp zf rfl (fun hb=>gM_ (r:=r) ((by rw[eJ_,hq1,Option.bind_some,if_pos hn1,eP_ hI (by omega) hb];rfl)) rfl rfl zp) fun⟨⟨sp,e1⟩,hs1,he1⟩=>?_
 try dsimp only
 refine Zz 3 ?_
 refine bN_ 0 4 rfl rfl zk ?_ ?_
 ·refine Zz 4 ?_
  refine bN_ 1 4 rfl rfl zk ?_ ?_
  ·refine Zz 4 ?_
   refine i_ 4 rfl zk (ap_ ao_ aZ_ bb_ rfl rfl rfl rfl rfl rfl fun b11=>Zz 3 ?_)
   refine i_ 5 rfl zk (aH_ (news:=List.flatMap Stp.cells [sp]) eV_ hr_S rfl rfl zp rfl (bJ_ 0 rfl) (fun u hu=>ba_ Stp.cells_one hu) (by simp only[maxLen];omega) (by omega) rfl fun sv8 Hr8 hr8=>?_)
   refine ac_ List.perm_append_comm ?_
   have hq8:=zsa hr8
   refine Zz 3 ?_
   refine i_ 6 rfl zk (Zz 4 ?_)
   refine i_ 7 rfl zk (bx_ 2 hq8 bX_ rfl rfl rfl rfl (Zz 10 ?_))
   exact Q_ ⟨(i+1,(l++[sp]),e1,sv8,Hr8),(by omega),(by rw[List.map_append];exact dg_ hI (by omega) hs1),he1,(by rw[List.length_append,hll];rfl),hq8⟩ (by dsimp only;omega) zl (o_ (c_ (c_ e_)) (o_ (c_ (c_ e_)) (o_ (c_ e_) P_))) (fun v _ h=>by exact⟨h.2.1,df_ h.2.2.2.1 h.1,trivial⟩)
  refine ap_ ao_ aZ_ bb_ rfl rfl rfl rfl rfl rfl fun b12=>Zz 3 ?_
  refine i_ 1 rfl zk (Zz 4 ?_)
  refine i_ 5 rfl zk (aH_ (news:=List.flatMap Stp.cells [sp]) eV_ hr_S rfl rfl zp rfl (bJ_ 0 rfl) (fun u hu=>ba_ Stp.cells_one hu) (by simp only[maxLen];omega) (by omega) rfl fun sv9 Hr9 hr9=>?_)
  refine ac_ List.perm_append_comm ?_
  have hq9:=zsa hr9
  refine Zz 3 ?_
  refine i_ 6 rfl zk (Zz 4 ?_)
  refine i_ 7 rfl zk (bx_ 2 hq9 bX_ rfl rfl rfl rfl (Zz 10 ?_))
  exact Q_ ⟨(i+1,(l++[sp]),e1,sv9,Hr9),(by omega),(by rw[List.map_append];exact dg_ hI (by omega) hs1),he1,(by rw[List.length_append,hll];rfl),hq9⟩ (by dsimp only;omega) zl (o_ (c_ (c_ e_)) (o_ (c_ (c_ e_)) (o_ (c_ e_) P_))) (fun v _ h=>by exact⟨h.2.1,df_ h.2.2.2.1 h.1,trivial⟩)
 refine ap_ ao_ aZ_ bb_ rfl rfl rfl rfl rfl rfl fun b13=>Zz 3 ?_
 refine i_ 0 rfl zk (Zz 4 ?_)
 refine i_ 1 rfl zk (Zz 4 ?_)
 refine i_ 5 rfl zk (aH_ (news:=List.flatMap Stp.cells [sp]) eV_ hr_S rfl rfl zp rfl (bJ_ 0 rfl) (fun u hu=>ba_ Stp.cells_one hu) (by simp only[maxLen];omega) (by omega) rfl fun sv10 Hr10 hr10=>?_)
 refine ac_ List.perm_append_comm ?_
 have hq10:=zsa hr10
 refine Zz 3 ?_
 refine i_ 6 rfl zk (Zz 4 ?_)
 refine i_ 7 rfl zk (bx_ 2 hq10 bX_ rfl rfl rfl rfl (Zz 10 ?_))
 exact Q_ ⟨(i+1,(l++[sp]),e1,sv10,Hr10),(by omega),(by rw[List.map_append];exact dg_ hI (by omega) hs1),he1,(by rw[List.length_append,hll];rfl),hq10⟩ (by dsimp only;omega) zl (o_ (c_ (c_ e_)) (o_ (c_ (c_ e_)) (o_ (c_ e_) P_))) (fun v _ h=>by exact⟨h.2.1,df_ h.2.2.2.1 h.1,trivial⟩)
end Go.Proofs.YtaffcjgphlhppaaGreatDoor
namespace Go.Proofs.YtaffcjgphlhppaaGreatDoor
open Go Go.Sx Go.Proofs
attribute [local irreducible] Code.wp wpList wpAnyH
open Go.Vs
theorem og_ {α:Type} {l:List α} {i:Nat} {x:α} {P:α→Prop} (h:∀ z∈List.take i l,P z) (hx:l[i]? = some x) (hp:P x):∀ z∈List.take (i+1) l,P z:=fun z hz=>by
 rw[List.take_add_one,hx]at hz
 rcases List.mem_append.1 hz with hz|hz
 ·exact h z hz
 simp only[Option.toList_some,List.mem_singleton]at hz;subst hz;exact hp
theorem kF_ (a b:Str):Fn0 Tryz.prog 29 #[str a,str b] (Fc.val (M_ a b)):=by
  refine t_ Tryz.func29 rfl rfl Tryz.ntmps29 rfl fun v0=>?_
  refine Zz 2 ?_
  refine C_ ad_ rfl fun b1=>Zz 6 ?_
  refine d_ (K_ fZ_ rfl rfl) rfl (w_ 0 x_ rfl rfl rfl rfl rfl rfl (Zz 3 ?_))
  exact ej_ () (fun aa v h1 h2=>cd_ (us:=Fc.cells (M_ a b)) 0 Tryz.results29 aI_ x_ rfl rfl rfl aa v h1 h2) g_ zt
theorem lK_ (a r b:Str):Fn0 Tryz.prog 28 #[str a,str r,str b] (Fc.val (ah_ a r b)):=by
  refine t_ Tryz.func28 rfl rfl Tryz.ntmps28 rfl fun v0=>?_
  refine Zz 2 ?_
  refine C_ ad_ rfl fun b1=>Zz 7 ?_
  refine d_ (K_ fZ_ rfl rfl) rfl (w_ 0 x_ rfl rfl rfl rfl rfl rfl (Zz 3 ?_))
  exact ej_ () (fun aa v h1 h2=>cd_ (us:=Fc.cells (ah_ a r b)) 0 Tryz.results28 aI_ x_ rfl rfl rfl aa v h1 h2) g_ zt
theorem qM_:hy_ Tryz.prog 36 [(0,1),(1,6),(7,1),(8,1)] [.int .i64 0,.int .i64 0,str [],str [],str [],.int .i64 0,.int .i64 0,.int .i64 0,.slice none 0 0]:=⟨_,bb_,bS_,fun w=>by simp[aq_,x_,tX_]⟩
theorem ix_ (k:Int) (f:Fc) (l:List Int) (fad:Option Addr) (fcap:Nat) (fs:List Fc) (gad:Option Addr) (gcap:Nat) (w:Int) (hfl:fs.length≤10000000) (hfr:l.length≤1000000) (hfs:∀ x∈fs,x.sml) (hsf:f.sml) (hw:(if eK_ [] fs (Stp.mk k f (-1) none 0 l)=true then 0 else 120)=w):Tri Tryz.prog 30 #[.int .i64 k,Fc.val f,.slice fad (List.length l) fcap,.slice gad (List.length fs) gcap,.int .i64 w] [] [at_ fad (List.flatMap dY_ l),at_ gad (List.flatMap Fc.cells fs),ia_] (fun _:Unit=>.bool true) (fun _=>[]) (fun _=>[]):=by
  refine t_ Tryz.func30 rfl rfl Tryz.ntmps30 rfl fun v0=>?_
  refine Zz 2 ?_
  refine ag_ rfl rfl fun b1=>Zz 9 ?_
  refine d_ (K_ qM_ rfl rfl) rfl (q_ (step_c [] none 0 fs gad gcap (Stp.mk k f (-1) fad fcap l) (by decide) (fun x hx=>by simp at hx) hfl hfr hfs hsf) rfl g_ (fun v _ h=>by exact⟨.inl rfl,h.2.1,h.1,h.2.2.1,trivial⟩) rfl fun⟨e1,he1⟩=>?_)
  dsimp only
  have hE1:e1=w:=by rcases he1 with⟨q,_⟩|⟨_,q⟩;exact absurd (by decide +kernel) q;exact q.trans hw
  refine Zz 1 ?_
  refine O_ (bf_ rfl rfl) rfl fun r1 hr1=>Zz 4 ?_
  exact J_ Tryz.results30 () (f_ rfl (by rw[← hr1];simp[hE1])) g_ zt
theorem sK_ (p:List Pc) (pad:Option Addr) (pcap:Nat) (hp:p.length≤1099511627744) (hbig:∀ x∈p,x.lim):Tri Tryz.prog 10 #[.slice pad (List.length p) pcap] [] [at_ pad (List.flatMap Pc.cells p)] (fun b:{b:Bool // b=true→p.length≤60∧∀ x∈p,x.sm}=>.bool b.1) (fun _=>[]) (fun _=>[]):=by
 refine t_ Tryz.func10 rfl rfl Tryz.ntmps10 rfl fun v0=>?_
 refine Zi 10 (fun hr1=>?_) fun hr1=>?_
 ·refine Zz 12 ?_
  refine av_ (ι:={y:Nat // y≤List.length p∧(∀ z∈List.take y p,z.sm)}) (fun y=>[(0,.slice pad (List.length p) pcap),(2,.bool false),(3,.int .i64 (y.1:Int))]) (fun y=>([])) (fun y=>[at_ pad (List.flatMap Pc.cells p)]) (fun y=>List.length p - y.1) ⟨(0:Nat),by simp,by simp⟩ zl g_ zh ?_
  rintro ⟨i,hi_i,hall⟩
  dsimp only at hi_i hall ⊢
  refine Zi 6 (fun hr2=>?_) fun hr2=>?_
  ·refine Zz 11 ?_
   exact J_ Tryz.results10 ⟨true,fun _=>⟨by omega,by rwa [List.take_of_length_le (by omega)]at hall⟩⟩ rfl g_ zt
  obtain⟨hlx1,x1,hx1,hmx1⟩:=zge (show i<List.length p by omega)
  obtain⟨q1,q2,q3,q4,q5,q6⟩:=hbig x1 hmx1
  refine Zz 9 ?_
  refine n_ 0 [0,1,2,3,4,5,6,7,8,9,10,11,12,13,14,15,16,17,18,19,20,21,22,23,24,25,26,27,28,29,30,31,32,33,34,35,36,37,38,39,40,41] zk zs (Zz 5 ?_)
  refine Z_ rfl (bR_ H_ rfl) rfl (Zz 5 ?_)
  refine Z_ rfl (bR_ H_ rfl) rfl (Zz 6 ?_)
  refine Z_ rfl (bR_ H_ rfl) rfl (Zz 6 ?_)
  refine Z_ rfl (bR_ H_ rfl) rfl (Zz 6 ?_)
  refine Z_ rfl (bR_ H_ rfl) rfl (Zz 6 ?_)
  refine Z_ rfl (bR_ H_ rfl) rfl (Zi 1 (fun hr3=>?_) fun hr3=>?_)
  ·refine Zz 12 ?_
   exact Q_ ⟨i+1,hlx1,og_ hall hx1 ⟨by omega,by omega,by omega,by omega,by omega,by omega⟩⟩ (by dsimp only;omega) zl g_ zh
  refine Zz 10 ?_
  exact J_ Tryz.results10 ⟨false,fun h=>by cases h⟩ rfl g_ zt
 refine Zz 9 ?_
 exact J_ Tryz.results10 ⟨false,fun h=>by cases h⟩ rfl g_ zt
theorem ty_ (l:List Stp) (ad:Option Addr) (cap:Nat) (hl:l.length≤1256584717424) (hbig:∀ s∈l,s.fact.lim):Tri Tryz.prog 11 #[.agg #[.slice ad (List.length l) cap]] [] [at_ ad (List.flatMap Stp.cells l),dD_ l] (fun b:{b:Bool // b=true→l.length≤60∧∀ s∈l,s.few}=>.bool b.1) (fun _=>[]) (fun _=>[]):=by
 refine t_ Tryz.func11 rfl rfl Tryz.ntmps11 rfl fun v0=>?_
 refine Zz 2 ?_
 refine ag_ rfl rfl fun b1=>Zi 9 (fun hr1=>?_) fun hr1=>?_
 ·refine Zz 12 ?_
  refine av_ (ι:={y:Nat // y≤List.length l∧(∀ z∈List.take y l,Stp.few z)}) (fun y=>[(1,zp_ b1 0),(2,.bool false),(3,.int .i64 (y.1:Int))]) (fun y=>((b1,.cells #[.slice ad (List.length l) cap] 27 (0,0))::[])) (fun y=>[at_ ad (List.flatMap Stp.cells l),dD_ l]) (fun y=>List.length l - y.1) ⟨(0:Nat),by simp,by simp⟩ zl e_ zh ?_
  rintro ⟨i,hi_i,hall⟩
  dsimp only at hi_i hall ⊢
  refine Zi 7 (fun hr2=>?_) fun hr2=>?_
  ·refine Zz 11 ?_
   exact J_ Tryz.results11 ⟨true,fun _=>⟨by omega,by rwa [List.take_of_length_le (by omega)]at hall⟩⟩ rfl g_ zt
  obtain⟨hlx1,x1,hx1,hmx1⟩:=zge (show i<List.length l by omega)
  obtain⟨q1,q2,q3⟩:=hbig x1 hmx1
  refine Zz 14 ?_
  refine C_ bb_ rfl fun b2=>w_ 0 aZ_ rfl rfl rfl rfl rfl rfl (Zi 7 (fun hr3=>?_) fun hr3=>?_)
  ·refine Zz 8 ?_
   refine d_ (bR_ H_ rfl) rfl (Zz 7 ?_)
   refine d_ (bR_ H_ rfl) rfl (Zz 9 ?_)
   refine d_ (bR_ H_ rfl) rfl (Zi 3 (fun hr4=>?_) fun hr4=>?_)
   ·refine Zz 12 ?_
    exact Q_ ⟨i+1,hlx1,og_ hall hx1 ⟨by omega,by omega⟩⟩ (by dsimp only;omega) zl (c_ e_) zh
   refine Zz 10 ?_
   exact J_ Tryz.results11 ⟨false,fun h=>by cases h⟩ rfl g_ zt
  refine Zz 26 ?_
  exact J_ Tryz.results11 ⟨false,fun h=>by cases h⟩ rfl g_ zt
 refine Zz 9 ?_
 exact J_ Tryz.results11 ⟨false,fun h=>by cases h⟩ rfl g_ zt
theorem sV_ (Y:List Stp) (yad:Option Addr) (ycap:Nat) (Z:List Stp) (zad:Option Addr) (zcap:Nat) (hS:SameS Y Z) (hl:Y.length≤1000000) (hfl:∀ s∈Y,s.frm.length≤1000000):Tri Tryz.prog 18 #[.agg #[.slice yad (List.length Y) ycap],.agg #[.slice zad (List.length Z) zcap]] [] [at_ yad (List.flatMap Stp.cells Y),dD_ Y,at_ zad (List.flatMap Stp.cells Z),dD_ Z] (fun _:Unit=>.bool true) (fun _=>[]) (fun _=>[]):=by
 refine t_ Tryz.func18 rfl rfl Tryz.ntmps18 rfl fun v0=>?_
 have hlen:=hS.len
 refine Zz 2 ?_
 refine ag_ rfl rfl fun b1=>ag_ rfl rfl fun b2=>Zi 12 (fun hr1=>?_) fun hr1=>?_
 ·refine Zz 12 ?_
  refine av_ (ι:={y:Nat // y≤List.length Y}) (fun y=>[(2,zp_ b1 0),(3,zp_ b2 0),(4,.bool false),(5,.int .i64 (y.1:Int))]) (fun y=>((b2,.cells #[.slice zad (List.length Z) zcap] 27 (0,0))::((b1,.cells #[.slice yad (List.length Y) ycap] 27 (0,0))::[]))) (fun y=>[at_ yad (List.flatMap Stp.cells Y),dD_ Y,at_ zad (List.flatMap Stp.cells Z),dD_ Z]) (fun y=>List.length Y - y.1) ⟨(0:Nat),by simp⟩ zl zp zh ?_
  rintro ⟨i,hi_i⟩
  dsimp only at hi_i ⊢
  refine Zi 7 (fun hr2=>?_) fun hr2=>?_
  ·refine Zz 11 ?_
   exact J_ Tryz.results18 () rfl g_ zt
  obtain⟨hlx1,x1,hx1,hmx1⟩:=zge (show i<List.length Y by omega)
  have hlz:i<List.length Z:=by have:=hS.len;omega
  have hly1:i<List.length Z:=hlz
  obtain⟨y1,hy1⟩:∃ e0,Z[i]? = some e0:=⟨_,List.getElem?_eq_getElem hly1⟩
  have hmy1:y1∈Z:=List.mem_of_getElem? hy1
  obtain⟨he1,he2,he3,he4⟩:=hS.eq i x1 y1 hx1 hy1
  have hf1:=hfl x1 hmx1
  refine Zz 14 ?_
  refine C_ bb_ rfl fun b3=>w_ 0 aZ_ rfl rfl rfl rfl rfl rfl (Zz 9 ?_)
  refine C_ bb_ rfl fun b4=>w_ 0 aZ_ rfl rfl rfl rfl rfl rfl (Zi 9 (fun hr3=>?_) fun hr3=>?_)
  ·refine Zz 10 ?_
   refine O_ (fs_ (p:=x1.fact) (q:=y1.fact) rfl rfl) rfl fun r4 hr4=>Zz 2 ?_
   cases r4
   ·replace hr4:=zdf hr4
    refine Zi 9 (fun hr5=>?_) fun hr5=>?_
    ·refine Zi 15 (fun hr6=>?_) fun hr6=>?_
     ·refine Zz 12 ?_
      refine av_ (ι:={y:Nat // y≤List.length x1.frm}) (fun y=>[(2,zp_ b1 0),(3,zp_ b2 0),(4,.bool false),(5,.int .i64 (i:Int)),(6,zp_ b3 0),(7,zp_ b4 0),(8,.int .i64 (y.1:Int))]) (fun y=>((b4,.cells #[.int .i64 y1.rule,.int .i64 (Fc.kind y1.fact),str (Fc.a y1.fact),str (Fc.b y1.fact),str (Fc.r y1.fact),.int .i64 (Fc.lo y1.fact),.int .i64 (Fc.hi y1.fact),.int .i64 y1.piece,.slice y1.ad (List.length y1.frm) y1.cap] 36 (0,0))::((b3,.cells #[.int .i64 x1.rule,.int .i64 (Fc.kind x1.fact),str (Fc.a x1.fact),str (Fc.b x1.fact),str (Fc.r x1.fact),.int .i64 (Fc.lo x1.fact),.int .i64 (Fc.hi x1.fact),.int .i64 x1.piece,.slice x1.ad (List.length x1.frm) x1.cap] 36 (0,0))::((b2,.cells #[.slice zad (List.length Z) zcap] 27 (0,0))::((b1,.cells #[.slice yad (List.length Y) ycap] 27 (0,0))::[]))))) (fun y=>[at_ yad (List.flatMap Stp.cells Y),dD_ Y,at_ zad (List.flatMap Stp.cells Z),dD_ Z]) (fun y=>List.length x1.frm - y.1) ⟨(0:Nat),by simp⟩ zl zp zh ?_
      rintro ⟨j,hi_j⟩
      dsimp only at hi_j ⊢
      refine Zi 7 (fun hr7=>?_) fun hr7=>?_
      ·refine Zz 11 ?_
       exact Q_ ⟨i+1,hlx1⟩ (by dsimp only;omega) zl zp zh
      obtain⟨hlx2,x2,hx2,hmx2⟩:=zge (show j<List.length x1.frm by omega)
      have hy2:y1.frm[j]? = some x2:=he4▸hx2
      have hly2:j<List.length y1.frm:=by rw[← he4];omega
      refine Zz 9 ?_
      refine n_ 0 [0,1,2,3,4,5,6,7,8,9,10] zk zs (Zz 3 ?_)
      refine Z_ rfl (X_ aG_ aq_ rfl rfl (fun v _ h=>I_ (n:=1) bz_ (by decide) (by exact (h.2.1 x1 hmx1)) hx2) (by omega) (by first|omega|(simp;done))) rfl ?_
      refine Z_ rfl (bn_ (ad:=x1.ad) aK_ rfl (fun v _ h=>by exact (h.2.1 x1 hmx1)) (G_ bz_ hx2 0 _ rfl)) rfl (Zz 3 ?_)
      refine Z_ rfl (X_ aG_ aq_ rfl rfl (fun v _ h=>I_ (n:=1) bz_ (by decide) (by exact (h.2.2.2.1 y1 hmy1)) hy2) (by omega) (by first|omega|(simp;done))) rfl ?_
      refine Z_ rfl (bn_ (ad:=y1.ad) aK_ rfl (fun v _ h=>by exact (h.2.2.2.1 y1 hmy1)) (G_ bz_ hy2 0 _ rfl)) rfl ?_
      refine Zi 0 (fun hr8=>?_) fun hr8=>?_
      ·refine Zz 12 ?_
       exact Q_ ⟨j+1,hlx2⟩ (by dsimp only;omega) zl zp zh
      first|exact absurd he1 hr8|exact absurd he2 hr8|exact absurd he3 hr8|exact absurd rfl hr8|(exfalso;rw[he4]at hr8;exact hr8 rfl)
     first|exact absurd he1 hr6|exact absurd he2 hr6|exact absurd he3 hr6|exact absurd rfl hr6|(exfalso;rw[he4]at hr6;exact hr6 rfl)
    first|exact absurd he1 hr5|exact absurd he2 hr5|exact absurd he3 hr5|exact absurd rfl hr5|(exfalso;rw[he4]at hr5;exact hr5 rfl)
   replace hr4:=zdt hr4
   first|exact absurd he1 hr4|exact absurd he2 hr4|exact absurd he3 hr4|exact absurd rfl hr4|(exfalso;rw[he4]at hr4;exact hr4 rfl)
  first|exact absurd he1 hr3|exact absurd he2 hr3|exact absurd he3 hr3|exact absurd rfl hr3|(exfalso;rw[he4]at hr3;exact hr3 rfl)
 exact absurd (congrArg Nat.cast hS.len) hr1
end Go.Proofs.YtaffcjgphlhppaaGreatDoor
namespace Go.Proofs.YtaffcjgphlhppaaGreatDoor
open Go Go.Sx Go.Proofs
attribute [local irreducible] Code.wp wpList wpAnyH
open Go.Vs
theorem ok_ax7:Ax.ok (Ax.mk 7 false (Con.mk 0 [] 0 0 none 0 []) (Con.mk 0 [] 0 0 none 0 []) none 0 [] [114] [] []):=by constructor<;>simp[Con.ok,Con.ok.oks]
theorem rV_:Ax.check (Ax.mk 7 false (Con.mk 0 [] 0 0 none 0 []) (Con.mk 0 [] 0 0 none 0 []) none 0 [] [114] [] [])=0:=by decide +kernel
theorem td_ {v:Vw}:(Ax.memF (Ax.mk 7 false (Con.mk 0 [] 0 0 none 0 []) (Con.mk 0 [] 0 0 none 0 []) none 0 [] [114] [] [])).p v:=⟨⟨.inl rfl,trivial⟩,⟨.inl rfl,trivial⟩,.inl rfl⟩
theorem tw_ (x:Ax) (hok:x.ok) (hc:x.check=0) (hk:x.kind=7):Tri Tryz.prog 26 #[Ax.val x] [] [Ax.memF x,iv_] (fun _:Unit=>.tuple #[.slice none 0 0,.slice none 0 0,.int .i64 22]) (fun _=>[]) (fun _=>[]):=by
 refine t_ Tryz.func26 rfl rfl Tryz.ntmps26 rfl fun v0=>?_
 refine Zz 2 ?_
 refine ag_ rfl rfl fun b1=>Zz 9 ?_
 refine q_ (mJ_ x hok) rfl g_ zf rfl fun _=>Zi 6 (fun hr1=>?_) fun hr1=>?_
 ·refine Zz 7 ?_
  refine q_ (kB_ (-1)) rfl g_ zt rfl fun⟨kb,bm0⟩=>?_
  dsimp only
  refine ac_ (@List.perm_append_comm _ _ [_]) (Zz 6 ?_)
  refine q_ (sJ_ kb) rfl g_ zt rfl fun⟨bk,bl,br⟩=>?_
  dsimp only
  refine Zi 23 (fun hr2=>?_) fun hr2=>?_
  ·refine Zi 5 (fun hr3=>?_) fun hr3=>?_
   ·refine Zi 6 (fun hr4=>?_) fun hr4=>?_
    ·refine Zi 6 (fun hr5=>?_) fun hr5=>?_
     ·refine Zi 6 (fun hr6=>?_) fun hr6=>?_
      ·refine Zi 6 (fun hr7=>?_) fun hr7=>?_
       ·refine Zz 12 ?_
        exact rk_ Tryz.results26 () rfl rfl rfl rfl g_ zt
       exfalso;omega
      exfalso;omega
     exfalso;omega
    exfalso;omega
   exfalso;omega
  exfalso;omega
 exact absurd hc hr1
theorem pQ_:Tri Tryz.prog 25 #[.slice none 0 0] [] [] (fun _:Unit=>.tuple #[.slice none 0 0,.int .i64 0]) (fun _=>[]) (fun _=>[]):=by
 refine t_ Tryz.func25 rfl rfl Tryz.ntmps25 rfl fun v0=>?_
 refine Zz 11 ?_
 refine d_ (bF_ (dl_ rfl rfl) (show _=Value.bool false from congrArg Value.bool (by decide))) rfl (Zz 14 ?_)
 refine av_ (ι:={y:Nat // y≤List.length ([]:List Ax)}) (fun y=>[(0,.slice none 0 0),(2,.slice none 0 0),(3,.int .i64 0),(13,.slice none 0 0),(14,.int .i64 0),(15,.int .i64 (y.1:Int))]) (fun y=>([])) (fun y=>[]) (fun y=>List.length ([]:List Ax) - y.1) ⟨(0:Nat),by simp⟩ zl g_ zt ?_
 rintro ⟨i,hi_i⟩
 dsimp only at hi_i ⊢
 refine Zi 2 (fun hr1=>?_) fun hr1=>?_
 ·refine Zz 15 ?_
  refine av_ (ι:={y:Nat // y≤List.length ([]:List Ax)}) (fun y=>[(0,.slice none 0 0),(2,.slice none 0 0),(3,.int .i64 0),(25,.slice none 0 0),(26,.int .i64 0),(27,.int .i64 (y.1:Int))]) (fun y=>([])) (fun y=>[]) (fun y=>List.length ([]:List Ax) - y.1) ⟨(0:Nat),by simp⟩ zl g_ zt ?_
  rintro ⟨j,hi_j⟩
  dsimp only at hi_j ⊢
  refine Zi 2 (fun hr2=>?_) fun hr2=>?_
  ·refine Zz 14 ?_
   exact sT_ Tryz.results25 () rfl rfl rfl g_ zt
  exfalso;omega
 exfalso;omega
theorem src0_c (x:Ax) (hok:x.ok) (hc:x.check=0) (hk:x.kind=7):Tri Tryz.prog 24 #[.slice none 0 0,Ax.val x,.slice none 0 0] [] [Ax.memF x,iv_] (fun _:Unit=>.int .i64 22) (fun _=>[]) (fun _=>[]):=by
  refine t_ Tryz.func24 rfl rfl Tryz.ntmps24 rfl fun v0=>?_
  refine Zz 2 ?_
  refine ag_ rfl rfl fun b1=>Zz 6 ?_
  refine q_ (pQ_) rfl g_ zt rfl fun _=>Zz 11 ?_
  refine d_ (bF_ (cg_ rfl rfl) (show _=Value.bool false from congrArg Value.bool (by decide))) rfl (Zz 8 ?_)
  refine q_ (tw_ x hok hc hk) rfl g_ zf rfl fun _=>Zz 13 ?_
  refine d_ (bF_ (cg_ rfl rfl) (show _=Value.bool true from congrArg Value.bool (by decide))) rfl (Zz 10 ?_)
  exact J_ Tryz.results24 () rfl g_ zt
theorem rY_ (l:List Stp) (ad:Option Addr) (cap:Nat) (L:Str) (e:Int) (hE:gX_ l=(L,e)) (hll:l.length≤10000000) (hfr:∀ s∈l,s.frm.length≤1000000) (hsf:∀ s∈l,s.fact.sml):Tri Tryz.prog 15 #[.agg #[.slice ad l.length cap]] [] [at_ ad (List.flatMap Stp.cells l),dD_ l] (fun y:{y:Value×Hp // zR 5 1 u8C y.1 L y.2}=>.tuple #[y.1.1,.int .i64 e]) (fun y=>y.1.2) (fun _=>[]):=by
  have h:=rW_ l ad cap hll hfr hsf
  rw[hE]at h
  exact h
def gq_:Stp:=(Stp.mk 1 (M_ [42] [42]) (-1) none 0 [])
theorem sn_e0:gX_ []=([0,0,0,0],0):=by decide +kernel
theorem tV_:gX_ [gq_]=((gX_ [gq_]).1,0):=by
  have:(gX_ [gq_]).2=0:=by decide +kernel
  rw[← this]
theorem sn_d1 {Y:List Stp} {e:Int} (h:sq_ (gX_ [gq_]).1 Y e):e=0∧SameS Y [gq_]:=by
 have hd:=tF_ tV_ (by intro s hs;rw[List.mem_singleton]at hs;subst hs;decide)
 rcases h with⟨h1,h2⟩|⟨h1,_⟩
 ·rw[hd,Option.some.injEq]at h1;exact⟨h2,ra_ h1.symm⟩
 rw[hd]at h1;cases h1
theorem sn_d0 {Y:List Stp} {e:Int} (h:sq_ [0] Y e):e=120:=by
 rcases h with⟨h1,h2⟩|⟨_,_,h⟩
 ·rw[show oG_ [0]=none from rfl]at h1;cases h1
 exact h
theorem sn_c1 {e:Int} (h:oi_ [] (M_ [42] [42]) [gq_] e):e=0:=by
  refine mb_ h (.inr (.inr ⟨by decide +kernel,by decide,.inl ⟨fun j s hj=>?_,⟨gq_,rfl,rfl⟩,rfl⟩⟩))
  match j with
  | 0=>simp only[List.getElem?_cons_zero,Option.some.injEq]at hj;subst hj;decide +kernel
  | j+1=>simp at hj
theorem sn_c2 {e:Int} (h:oi_ [] (M_ [42] [42]) [] e):e=120 :=
  mb_ h (.inr (.inr ⟨by decide +kernel,by decide,.inr ⟨fun q=>(by obtain⟨_,t,ht,_⟩:=q;simp at ht),rfl⟩⟩))
theorem hu_ {l:List Fc} (h:l.all (fun f=>Nat.ble f.a.length 17592186044414&&(Nat.ble f.b.length 17592186044414&&Nat.ble f.r.length 17592186044414))=true):∀ x∈l,x.sml:=fun x hx=>by
  have:=List.all_eq_true.1 h x hx
  simp only[Bool.and_eq_true,Nat.ble_eq]at this
  exact⟨this.1,this.2.1,this.2.2⟩
theorem kd_ {v:Vw}:(dD_ [gq_]).p v:=fun x hx=>by rw[List.mem_singleton]at hx;subst hx;exact .inl rfl
theorem qZ_ {Y Z:List Stp} (h:SameS Y Z) {n:Nat} (hz:∀ s∈Z,s.frm.length≤n):∀ s∈Y,s.frm.length≤n:=fun s hs=>by
  obtain⟨i,hi⟩:=List.getElem?_of_mem hs
  have hl:=(List.getElem?_eq_some_iff.1 hi).1
  have hz':=List.getElem?_eq_getElem (show i<Z.length by have:=h.len;omega)
  rw[(h.eq i s _ hi hz').2.2.2]
  exact hz _ (List.getElem_mem _)
theorem strt58:hy_ Tryz.prog 58 [(0,1),(1,1),(2,5),(7,5),(12,1),(13,1),(14,1),(15,1)] [.int .i64 0,.bool false,.int .i64 0,str [],.int .i64 0,.int .i64 0,.slice none 0 0,.int .i64 0,str [],.int .i64 0,.int .i64 0,.slice none 0 0,.slice none 0 0,str [],str [],str []]:=⟨_,Tryz.zeroValue58,A_,fun w=>by simp[aq_,cy_,al_,fe_,F_]⟩
theorem om_:hy_ Tryz.prog 27 [(0,1)] [.slice none 0 0]:=⟨_,hW_,bl_,fun w=>by simp[bX_]⟩
set_option maxHeartbeats 1000000 in
theorem qY_:Tri Tryz.prog 9 #[] [] [ia_,iv_] (fun _:Unit=>.bool true) (fun _=>[]) (fun _=>[]):=by
 refine t_ Tryz.func9 rfl rfl Tryz.ntmps9 rfl fun v0=>?_
 refine Zz 7 ?_
 refine q_ (lK_ [65] [114] [66]) rfl g_ zt rfl fun _=>q_ (kF_ [66] [33]) rfl g_ zt rfl fun _=>ap_ E_ x_ ad_ rfl rfl rfl rfl rfl rfl fun b1=>?_
 refine bu_ (List.flatMap Fc.cells [(ah_ [65] [114] [66]),(M_ [66] [33])]) e_ rfl ?_
 refine Zz 6 ?_
 refine q_ (kF_ [65] [33]) rfl g_ zt rfl fun _=>ap_ aG_ aq_ cx_ rfl rfl rfl rfl rfl rfl fun b2=>?_
 refine bu_ (List.flatMap dY_ [0,1]) e_ rfl ?_
 refine Zz 1 ?_
 refine q_ (ix_ 9 (M_ [65] [33]) [0,1] (some ⟨b2,0,none⟩) 2 [(ah_ [65] [114] [66]),(M_ [66] [33])] (some ⟨b1,0,none⟩) 2 0 (by decide) (by decide) (hu_ (by decide +kernel)) (by decide) (by decide +kernel)) rfl g_ zf rfl fun _=>d_ (bj_ rfl) rfl (Zz 2 ?_)
 refine q_ (kF_ [65] [33]) rfl g_ zt rfl fun _=>y_ rfl rfl (ap_ aG_ aq_ cx_ rfl rfl rfl rfl rfl rfl fun b3=>?_)
 refine bu_ (List.flatMap dY_ [1,0]) e_ rfl ?_
 refine Zz 3 ?_
 refine q_ (ix_ 9 (M_ [65] [33]) [1,0] (some ⟨b3,0,none⟩) 2 [(ah_ [65] [114] [66]),(M_ [66] [33])] (some ⟨b1,0,none⟩) 2 120 (by decide) (by decide) (hu_ (by decide +kernel)) (by decide) (by decide +kernel)) rfl g_ zf rfl fun _=>y_ rfl rfl (d_ (bj_ rfl) rfl (Zz 3 ?_))
 refine q_ (lK_ [65] [114] [65]) rfl g_ zt rfl fun _=>y_ rfl rfl (ap_ aG_ aq_ cx_ rfl rfl rfl rfl rfl rfl fun b4=>?_)
 refine bu_ (List.flatMap dY_ [0]) e_ rfl ?_
 refine y_ rfl rfl (q_ (kF_ [65] [33]) rfl g_ zt rfl fun _=>y_ rfl rfl (ap_ E_ x_ ad_ rfl rfl rfl rfl rfl rfl fun b5=>?_))
 refine bu_ (List.flatMap Fc.cells [(M_ [65] [33])]) e_ rfl ?_
 refine y_ rfl rfl (q_ (ix_ 15 (ah_ [65] [114] [65]) [0] (some ⟨b4,0,none⟩) 1 [(M_ [65] [33])] (some ⟨b5,0,none⟩) 1 0 (by decide) (by decide) (hu_ (by decide +kernel)) (by decide) (by decide +kernel)) rfl g_ zf rfl fun _=>y_ rfl rfl (d_ (bj_ rfl) rfl (Zz 8 ?_)))
 refine d_ (K_ fZ_ rfl rfl) rfl (C_ ad_ rfl fun b6=>w_ 0 x_ rfl rfl rfl rfl rfl rfl (Zz 4 ?_))
 refine d_ (K_ fZ_ rfl rfl) rfl (C_ ad_ rfl fun b7=>w_ 0 x_ rfl rfl rfl rfl rfl rfl (Zz 6 ?_))
 refine ap_ aG_ aq_ cx_ rfl rfl rfl rfl rfl rfl fun b8=>?_
 refine bu_ (List.flatMap dY_ [0]) e_ rfl ?_
 refine Zz 1 ?_
 refine ap_ E_ x_ ad_ rfl rfl rfl rfl rfl rfl fun b9=>?_
 refine bu_ (List.flatMap Fc.cells [(Fc.mk 3 [65] [] [102] 3 5)]) e_ rfl ?_
 refine q_ (ix_ 16 (Fc.mk 3 [65] [] [102] 0 9) [0] (some ⟨b8,0,none⟩) 1 [(Fc.mk 3 [65] [] [102] 3 5)] (some ⟨b9,0,none⟩) 1 0 (by decide) (by decide) (hu_ (by decide +kernel)) (by decide) (by decide +kernel)) rfl g_ zf rfl fun _=>d_ (bj_ rfl) rfl (Zz 4 ?_)
 refine ap_ aG_ aq_ cx_ rfl rfl rfl rfl rfl rfl fun b10=>?_
 refine bu_ (List.flatMap dY_ [0]) e_ rfl ?_
 refine Zz 3 ?_
 refine ap_ E_ x_ ad_ rfl rfl rfl rfl rfl rfl fun b11=>?_
 refine bu_ (List.flatMap Fc.cells [(Fc.mk 3 [65] [] [102] 0 9)]) e_ rfl ?_
 refine y_ rfl rfl (q_ (ix_ 16 (Fc.mk 3 [65] [] [102] 3 5) [0] (some ⟨b10,0,none⟩) 1 [(Fc.mk 3 [65] [] [102] 0 9)] (some ⟨b11,0,none⟩) 1 120 (by decide) (by decide) (hu_ (by decide +kernel)) (by decide) (by decide +kernel)) rfl g_ zf rfl fun _=>y_ rfl rfl (d_ (bj_ rfl) rfl (Zz 8 ?_)))
 refine q_ (kF_ [42] [42]) rfl g_ zt rfl fun _=>d_ (K_ qM_ rfl rfl) rfl (ap_ ao_ aZ_ bb_ rfl rfl rfl rfl rfl rfl fun b12=>?_)
 refine bu_ (List.flatMap Stp.cells [(Stp.mk 1 (M_ [42] [42]) (-1) none 0 ([]:List Int))]) e_ rfl ?_
 refine d_ (K_ om_ rfl rfl) rfl (C_ hW_ rfl fun b13=>w_ 0 gn_ rfl rfl rfl rfl rfl rfl (Zz 4 ?_))
 refine d_ (K_ om_ rfl rfl) rfl (q_ (rY_ [] none 0 [0,0,0,0] 0 sn_e0 (by decide) (by decide) (by decide)) rfl g_ (fun v _ h=>by exact⟨(.inl rfl),hE_,trivial⟩) rfl fun⟨⟨sve1,He1⟩,he1⟩=>?_)
 dsimp only
 refine ac_ lF_ (dz_ he1 u_ fun ea1 ec1 hea1 hcea1 hmea1 hzea1=>?_)
 subst hea1
 refine Zz 10 ?_
 refine q_ (rY_ [gq_] (some ⟨b12,0,none⟩) 1 (gX_ [gq_]).1 0 tV_ (by decide) (by decide) (by decide)) rfl g_ (fun v _ h=>by exact⟨h.2.1,kd_,trivial⟩) rfl fun⟨⟨sve2,He2⟩,he2⟩=>?_
 dsimp only
 refine ac_ lF_ (dz_ he2 u_ fun ea2 ec2 hea2 hcea2 hmea2 hzea2=>?_)
 subst hea2
 refine Zz 10 ?_
 refine q_ (nZ_ ((gX_ [gq_]).1) ea2 ec2 ⟨hcea2,hmea2,hzea2⟩) rfl g_ zf rfl fun⟨⟨⟨Y1,ya1,yc1⟩,ye1⟩,hD1,hY1,hM1,hZ1⟩=>?_
 dsimp only
 dsimp only at hD1 hY1 hM1 hZ1
 obtain⟨rfl,hS1⟩:=sn_d1 hD1;have hl1:=hS1.len
 refine Zz 3 ?_
 refine C_ hW_ rfl fun b14=>w_ 0 gn_ rfl rfl rfl rfl rfl rfl (Zz 5 ?_)
 refine ap_ aV_ hi_ Tryz.zeroValue5 rfl rfl rfl rfl rfl rfl fun b15=>?_
 refine bu_ (List.flatMap u8C [(0:UInt8)]) e_ rfl ?_
 refine q_ (nZ_ [(0:UInt8)] (some ⟨b15,0,none⟩) 1 ⟨Nat.le_refl _,(show 1≤maxLen by decide),fun q=>by cases q⟩) rfl g_ zf rfl fun⟨⟨⟨Y2,ya2,yc2⟩,ye2⟩,hD2,hY2,hM2,hZ2⟩=>?_
 dsimp only
 dsimp only at hD2 hY2 hM2 hZ2
 obtain rfl:=sn_d0 hD2
 refine Zz 3 ?_
 refine C_ hW_ rfl fun b16=>w_ 0 gn_ rfl rfl rfl rfl rfl rfl (Zz 6 ?_)
 refine n_ 36 [1] zk zs (Zz 2 ?_)
 refine i_ 0 rfl zk (q_ (kF_ [42] [42]) rfl g_ zt rfl fun _=>Zz 3 ?_)
 refine i_ 2 rfl zk (q_ (jn_ [] none 0 (M_ [42] [42]) [gq_] (some ⟨b12,0,none⟩) 1 (by decide) (fun x hx=>by simp at hx) (by decide) (by decide) (by decide)) rfl g_ (fun v _ h=>by exact⟨.inl rfl,h.2.2.2.2.2.2.2.1,kd_,h.2.2.2.2.2.2.2.2.2.2.2.2.2.2.2.2.2.1,trivial⟩) rfl fun⟨ce1,hC1⟩=>?_)
 dsimp only
 try dsimp only at hC1
 obtain rfl:=sn_c1 hC1
 refine Zz 3 ?_
 refine n_ 31 [3,4,6] zk zs (Z_ rfl (bF_ (cg_ rfl rfl) (show _=Value.bool false from congrArg Value.bool (by decide))) rfl (Zz 1 ?_))
 refine bQ_ rfl rfl rfl (K_ om_ rfl rfl) rfl (dB_ (i_ 5 rfl zk (y_ rfl rfl (q_ (kF_ [42] [42]) rfl g_ zt rfl fun _=>Zz 3 ?_))))
 refine i_ 7 rfl zk (y_ rfl rfl (q_ (jn_ [] none 0 (M_ [42] [42]) [] none 0 (by decide) (fun x hx=>by simp at hx) (by decide) (by decide) (by decide)) rfl g_ (fun v _ h=>by exact⟨.inl rfl,(.inl rfl),hE_,h.2.2.2.2.2.2.2.2.2.2.2.2.2.2.2.2.2.1,trivial⟩) rfl fun⟨ce2,hC2⟩=>?_))
 dsimp only
 try dsimp only at hC2
 obtain rfl:=sn_c2 hC2
 refine Zz 3 ?_
 refine n_ 21 [8,9,10,11,12,13,14,15] zk zs (bQ_ rfl rfl rfl (bF_ (cg_ rfl rfl) (show _=Value.bool false from congrArg Value.bool (by decide))) rfl (Zz 3 ?_))
 refine bQ_ rfl rfl rfl (oR_ lp_ mY_ aM_ rfl zf) rfl ?_
 refine Zi 0 (fun hr1=>?_) fun hr1=>?_
 ·refine Zz 3 ?_
  refine n_ 11 [16,17,18,19,20,21,22,23,24,25] zk zs (Zz 1 ?_)
  refine bQ_ rfl rfl rfl (bF_ (cg_ rfl rfl) (show _=Value.bool false from congrArg Value.bool (by decide))) rfl (Zz 3 ?_)
  refine bQ_ rfl rfl rfl (bF_ (cg_ rfl rfl) (show _=Value.bool false from congrArg Value.bool (by decide))) rfl (Zz 5 ?_)
  refine i_ 26 rfl zk (y_ rfl rfl (q_ (sV_ Y1 ya1 yc1 [gq_] (some ⟨b12,0,none⟩) 1 hS1 (by rw[hl1];decide) (fun s hs=>qZ_ hS1 (by decide) s hs)) rfl g_ (fun v _ h=>by exact⟨h.2.2.2.1,h.2.2.2.2.1,h.2.2.2.2.2.2.2.1,kd_,trivial⟩) rfl fun _=>?_))
  refine Zz 3 ?_
  refine n_ 0 [27,28,29,30,31,32,33,34,35,36] zk zs (bQ_ rfl rfl rfl (bj_ rfl) rfl (Zz 3 ?_))
  refine bQ_ rfl rfl rfl (bF_ (cg_ rfl rfl) (show _=Value.bool false from congrArg Value.bool (by decide))) rfl (Zz 3 ?_)
  refine bQ_ rfl rfl rfl (bF_ (cg_ rfl rfl) (show _=Value.bool false from congrArg Value.bool (by decide))) rfl (Zz 9 ?_)
  refine d_ (K_ strt58 rfl rfl) rfl (q_ (src0_c (Ax.mk 7 false (Con.mk 0 [] 0 0 none 0 []) (Con.mk 0 [] 0 0 none 0 []) none 0 [] [114] [] []) ok_ax7 rV_ rfl) rfl g_ (fun v _ h=>by exact⟨td_,h.2.2.2.2.2.2.2.2.2.2.2.2.2.2.2.2.2.2.1,trivial⟩) rfl fun _=>d_ (bF_ (bf_ rfl rfl) (show _=Value.bool true from congrArg Value.bool (by decide))) rfl (Zz 4 ?_))
  exact J_ Tryz.results9 () rfl g_ zt
 exact absurd rfl hr1
end Go.Proofs.YtaffcjgphlhppaaGreatDoor
namespace Go.Proofs.YtaffcjgphlhppaaGreatDoor
open Go Go.Sx Go.Proofs
attribute [local irreducible] Code.wp wpList wpAnyH
open Go.Vs
theorem rx_ (k:Int):0≤hd_ k∧hd_ k≤2:=by unfold hd_;split<;>(try split)<;>omega
section
variable {P:Program} {N:Nf} {v0:Vw} {H0:Hp} {R:Exit→Act→World→Prop} {K:List Kt} {fr:Fr} {H F:Hp} {Γ:List Fct} {ops:Array Oper} {l:List Oper} {ty:TypeId} {ps:String} {af:Array Edge}
end
end Go.Proofs.YtaffcjgphlhppaaGreatDoor
namespace Go.Proofs.YtaffcjgphlhppaaGreatDoor
open Go Go.Sx Go.Proofs
attribute [local irreducible] Code.wp wpList wpAnyH
open Go.Vs
theorem tI_ {p:List Pc} {f:Fc} {l:List Stp} (h:oi_ p f l 0):bT_ p=0∧l.length≤65536∧jT_ p l∧∃ t,l[l.length - 1]? = some t∧t.fact=f:=by
 rcases h with⟨h1,h2⟩|⟨_,_,h2⟩|⟨h1,h2,⟨h3,h4,_⟩|⟨_,h3⟩⟩
 ·exact absurd h2.symm h1
 ·exact absurd h2 (by decide)
 ·exact⟨h1,h2,h3,h4⟩
 exact absurd h3 (by decide)
end Go.Proofs.YtaffcjgphlhppaaGreatDoor
namespace Go.Proofs.YtaffcjgphlhppaaGreatDoor
open Go Go.Sx Go.Proofs
attribute [local irreducible] Code.wp wpList wpAnyH
open Go.Vs
theorem tO_ (p:List Pc):[42]∈atS p:=(mL_ p _).2 (.inr (.inl rfl))
theorem tP_ (p:List Pc):[33]∈atS p:=(mL_ p _).2 (.inr (.inr rfl))
theorem at_of {p:List Pc} {x:Pc} (hx:x∈p) {s:Str} (hs:s=x.a∨s=x.b∨s=x.c) (hn:s≠[]):s∈atS p:=by
  refine (mL_ p s).2 (.inl ((ij_ p s).2 ?_))
  refine List.mem_flatMap.2 ⟨x,hx,List.mem_filter.2 ⟨?_,by simpa using hn⟩⟩
  rcases hs with rfl|rfl|rfl<;>simp
theorem rJ_ {p:List Pc} {s:Str} (h:dX_ p s=true):s∈atS p:=by
 unfold dX_ at h
 simp only[Bool.or_eq_true,decide_eq_true_eq]at h
 rcases h with rfl|rfl|h
 ·exact tO_ p
 ·exact tP_ p
 obtain⟨x,hx,h⟩:=List.any_eq_true.1 h
 simp only[Bool.and_eq_true,Bool.or_eq_true,decide_eq_true_eq]at h
 exact at_of hx (by rcases h.2 with q|q|q;exact .inl q.symm;exact .inr (.inl q.symm);exact .inr (.inr q.symm)) h.1
theorem mO_ {p:List Pc} {A:List Str} {m:Nat} {L:List Fc} (h:la_ p A m (some L)) {y:Fc} (hy:hf_ p A (·∈L) y):y∈L :=
  (h.2.1 y).2 (Der.step (hy.mono (fun x hx=>⟨x,hx,x.frm,rfl⟩) (fun _ h=>h) (fun z hz=>(h.2.1 z).1 hz) (fun _ _ q=>q)))
theorem sa_ {F:List Fc} {f:Fc} (h:lk_ (·∈F) f):qm_ F f=true:=by
 unfold qm_
 rw[List.any_eq_true]
 rcases h with h|h|⟨_,lo,hi,h,h1,h2,h3⟩
 ·exact⟨f,h,by simp⟩
 ·exact⟨_,h,by simp⟩
 refine⟨_,h,?_⟩
 rw[Bool.or_eq_true]
 right
 simp only[Bool.and_eq_true,decide_eq_true_eq]
 exact⟨⟨h3,rfl⟩,h1,h2⟩
theorem fcs_at {l:List Stp} {j k:Nat} {s:Stp} (hk:k<j) (hs:l[k]? = some s):(fcs (l.take j)).getD k zfc=s.fact:=by
  have e:(fcs (l.take j))[k]? = some s.fact:=by
    unfold fcs
    rw[List.getElem?_map,List.getElem?_take_of_lt hk,hs]
    rfl
  simp[List.getD,e]
theorem pC_ {p:List Pc} {l:List Stp} {m:Nat} {L:List Fc} (hS:jT_ p l) (h:la_ p (atS p) m (some L)):∀ (j:Nat) (s:Stp),l[j]? = some s→lk_ (·∈L) s.fact:=by
  intro j
  induction j using Nat.strongRecOn with
  | ind j ih =>
    intro s hs
    have hc:=hS j s hs
    unfold eK_ at hc
    simp only[Bool.and_eq_true,decide_eq_true_eq]at hc
    obtain⟨h1,h2,h3,h4,h5,h6,h7⟩:=hc
    have hpr:∀ (i:Nat),i<s.frm.length→lk_ (·∈L) ((bU_ (fcs (l.take j)) s.frm).getD i zfc)∧wf2 ((bU_ (fcs (l.take j)) s.frm).getD i zfc)=true:=by
      intro i hi
      obtain⟨q1,q2,q3⟩:=fE_ h5 (List.getElem_mem hi)
      have e:(bU_ (fcs (l.take j)) s.frm).getD i zfc=(fcs (l.take j)).getD (s.frm[i]).toNat zfc:=by
        have e0:(bU_ (fcs (l.take j)) s.frm)[i]? = some ((fcs (l.take j)).getD (s.frm[i]).toNat zfc):=by
          unfold bU_
          rw[List.getElem?_map,List.getElem?_eq_getElem hi]
          rfl
        exact fp_ e0
      rw[e]
      refine⟨?_,q3⟩
      rw[eH_,List.length_take]at q2
      have hk:(s.frm[i]).toNat<l.length:=by omega
      have hg:=List.getElem?_eq_getElem hk
      rw[fcs_at (by omega) hg]
      exact ih _ (by omega) _ hg
    have hm:=rx_ s.rule
    refine oC_ (fun y hy=>mO_ h hy) (fun s hs=>rJ_ hs) h1 h2 (fun hz=>?_) (fun hz=>hpr 0 (by omega)) (fun hz=>hpr 1 (by omega)) h7
    obtain⟨r1,r2,r3⟩:=(ko_ hz).1 h6
    have hlt:s.piece.toNat<p.length:=by omega
    unfold kn_
    rw[if_neg hz]
    refine⟨?_,r3⟩
    rw[fp_ (List.getElem?_eq_getElem hlt)]
    exact List.getElem_mem hlt
theorem snd_ok {p:List Pc} {f:Fc} {l:List Stp} {c:Cl} {e:Int} (h:oi_ p f l 0) (hA:kZ_ p 20000 c e):(e=0∧c.facts.length≤65536∧(∀ s∈l,qm_ c.facts s.fact=true)∧qm_ c.facts f=true)∨e=3:=by
 obtain⟨h1,h2,hS,t,ht,hf⟩:=tI_ h
 unfold kZ_ at hA
 rw[if_neg (by simp[h1]),if_neg (by omega)]at hA
 rcases hA with⟨he,_,_,h3⟩|⟨_,he,_⟩
 ·have hd:=pC_ hS h3
  have hl:=h3.2.2
  refine .inl ⟨he,by omega,fun s hs=>?_,by rw[← hf];exact sa_ (hd _ _ ht)⟩
  obtain⟨i,hi⟩:=List.getElem?_of_mem hs
  exact sa_ (hd _ _ hi)
 exact .inr (by rw[he];rfl)
theorem rZ_ (c:Cl) (f:Fc) (hf:c.facts.length≤1000000000000) (h:qm_ c.facts f=true):Tri Tryz.prog 21 #[Cl.val c,Fc.val f] [] [at_ c.fad (List.flatMap Fc.cells c.facts)] (fun _:Unit=>.bool true) (fun _=>[]) (fun _=>[]):=by
  have q:=der_c c f hf
  rw[h]at q
  exact q
theorem checkerSound_c (p:List Pc) (pad:Option Addr) (pcap:Nat) (hp:p.length≤1099511627744) (hbig:∀ x∈p,x.lim) (f:Fc) (l:List Stp) (ad:Option Addr) (cap:Nat) (hl:l.length≤1256584717424) (hlim:∀ s∈l,s.fact.lim):Tri Tryz.prog 7 #[.slice pad (List.length p) pcap,Fc.val f,.agg #[.slice ad (List.length l) cap]] [] [at_ pad (List.flatMap Pc.cells p),at_ ad (List.flatMap Stp.cells l),dD_ l,ia_,iv_] (fun _:Unit=>.bool true) (fun _=>[]) (fun _=>[]):=by
 refine t_ Tryz.func7 rfl rfl Tryz.ntmps7 rfl fun v0=>?_
 refine Zz 2 ?_
 refine ag_ rfl rfl fun b1=>ag_ rfl rfl fun b2=>Zz 6 ?_
 refine q_ (qY_) rfl g_ zf rfl fun _=>d_ (bj_ rfl) rfl (Zz 9 ?_)
 refine q_ (sK_ p pad pcap hp hbig) rfl g_ zf rfl fun⟨sb,hsb⟩=>?_
 dsimp only
 refine d_ (bj_ rfl) rfl (Zz 1 ?_)
 cases sb
 ·refine Zz 13 ?_
  exact J_ mn_ () rfl g_ zt
 obtain⟨hp60,hsm⟩:=hsb rfl
 refine Zz 3 ?_
 refine q_ (ty_ l ad cap hl hlim) rfl g_ zf rfl fun⟨fw,hfw⟩=>?_
 dsimp only
 refine y_ rfl rfl (d_ (bj_ rfl) rfl (Zz 3 ?_))
 cases fw
 ·refine Zz 7 ?_
  exact J_ mn_ () rfl g_ zt
 obtain⟨hl60,hfew⟩:=hfw rfl
 have hfr:∀ s∈l,s.frm.length≤1000000:=fun s hs=>by have:=(hfew s hs).1;omega
 have hsml:∀ s∈l,s.fact.sml:=fun s hs=>(hfew s hs).sml
 refine Zz 9 ?_
 refine q_ (jn_ p pad pcap f l ad cap (by omega) hsm (by omega) hfr hsml) rfl g_ zf rfl fun⟨e1,hC1⟩=>?_
 dsimp only
 try dsimp only at hC1
 refine Zi 0 (fun hr1=>?_) fun hr1=>?_
 ·have he1:e1=0:=by omega
  subst he1
  refine Zz 8 ?_
  refine q_ (all_c p pad pcap 20000 hsm (by omega)) rfl g_ zf rfl fun⟨⟨c1,ea⟩,hA1⟩=>?_
  dsimp only
  dsimp only at hA1
  have hA2:=snd_ok hC1 hA1
  refine Zz 3 ?_
  refine C_ Tryz.zeroValue49 rfl fun b3=>w_ 0 aY_ rfl rfl rfl rfl rfl rfl (Zi 7 (fun hr2=>?_) fun hr2=>?_)
  ·obtain⟨_,hcl,hds,hdf⟩:=hA2.resolve_right (by omega)
   refine Zz 12 ?_
   refine av_ (ι:={y:Nat // y≤List.length l}) (fun y=>[(4,zp_ b1 0),(5,zp_ b2 0),(6,.bool false),(7,zp_ b3 0),(9,.int .i64 (y.1:Int))]) (fun y=>((b3,.cells #[.slice c1.aad (List.length c1.atoms) c1.acap,.slice c1.fad (List.length c1.facts) c1.fcap] 49 (0,0))::((b2,.cells #[.slice ad (List.length l) cap] 27 (0,0))::((b1,.cells #[.int .i64 f.kind,str f.a,str f.b,str f.r,.int .i64 f.lo,.int .i64 f.hi] 24 (0,0))::[])))) (fun y=>[at_ c1.aad (List.flatMap bw_ c1.atoms),at_ c1.fad (List.flatMap Fc.cells c1.facts),at_ pad (List.flatMap Pc.cells p),at_ ad (List.flatMap Stp.cells l),dD_ l,ia_,iv_]) (fun y=>List.length l - y.1) ⟨(0:Nat),by simp⟩ zl zp zh ?_
   rintro ⟨i,hi_i⟩
   dsimp only at hi_i ⊢
   refine Zi 7 (fun hr3=>?_) fun hr3=>?_
   ·refine Zz 9 ?_
    refine q_ (rZ_ c1 f (by omega) hdf) rfl g_ zf rfl fun _=>Zz 4 ?_
    exact J_ mn_ () rfl g_ zt
   obtain⟨hlx1,x1,hx1,hmx1⟩:=zge (show i<List.length l by omega)
   refine Zz 9 ?_
   refine n_ 2 [0,1,2,3,4,5,6] zk zs (Zz 6 ?_)
   refine Z_ rfl (aA_ (ad:=ad) (us:=Fc.cells x1.fact) aI_ x_ rfl zf rfl (lt_ 1 (G_ Stp.cells_len hx1) x1.fact_cells)) rfl (dB_ (i_ 7 rfl zk (q_ (rZ_ c1 x1.fact (by omega) (hds _ hmx1)) rfl g_ zf rfl fun _=>Zz 3 ?_)))
   refine n_ 0 [8] zk zs (Z_ rfl (bj_ rfl) rfl (Zz 12 ?_))
   exact Q_ ⟨i+1,hlx1⟩ (by dsimp only;omega) zl zp zh
  refine Zi 6 (fun hr4=>?_) fun hr4=>?_
  ·refine Zz 4 ?_
   refine O_ (bf_ rfl rfl) rfl fun r5 hr5=>Zz 5 ?_
   exact J_ mn_ () (f_ rfl (by rw[← hr5];have z:=hA2.resolve_left (fun q=>absurd q.1 (by omega));rw[z];rfl)) g_ zt
  refine Zz 8 ?_
  exact J_ mn_ () rfl g_ zt
 refine Zz 9 ?_
 exact J_ mn_ () rfl g_ zt
end Go.Proofs.YtaffcjgphlhppaaGreatDoor
namespace Go.Proofs.YtaffcjgphlhppaaGreatDoor
open Go Go.Sx Go.Proofs
attribute [local irreducible] Code.wp wpList wpAnyH
open Go.Vs
structure Pf where
  l:List Stp
  ad:Option Addr
  cap:Nat
def Pf.cells (y:Pf):List Value:=[.slice y.ad y.l.length y.cap]
theorem Pf.cells_len (y:Pf):y.cells.length=1:=rfl
def Pf.val (y:Pf):Value:=.agg y.cells.toArray
structure Pf.lim (y:Pf):Prop where
  len:y.l.length≤1256584717424
  st:∀ s∈y.l,s.fact.lim
structure Pf.few (y:Pf):Prop where
  len:y.l.length≤60
  st:∀ s∈y.l,s.few
end Go.Proofs.YtaffcjgphlhppaaGreatDoor
namespace Go.Proofs.YtaffcjgphlhppaaGreatDoor
open Go Go.Sx Go.Proofs
attribute [local irreducible] Code.wp wpList wpAnyH
open Go.Vs Go.ChangeShapes Go.WideShapes Go.ChangeAt Go.RowKit
structure TysR (P:Program) (tI tS tF tIs tX tXs tQ tU tUs:TypeId):Prop where
  f:∃ fs,P.underlying tF=some (.struct fs)∧fs.toList.map (fun f=>(f.type,f.offset))=[(tI,0),(tS,1),(tS,2),(tS,3),(tI,4),(tI,5)]
  cf:P.cellsOf tF=6
  x:∃ fs,P.underlying tX=some (.struct fs)∧fs.toList.map (fun f=>(f.type,f.offset))=[(tI,0),(tF,1),(tI,7),(tIs,8)]
  xs:P.underlying tXs=some (.slice tX)
  is:P.underlying tIs=some (.slice tI)
  q:∃ fs,P.underlying tQ=some (.struct fs)∧fs.toList.map (fun f=>(f.type,f.offset))=[(tXs,0)]
  u:P.underlying tU=some (.int .u8)
  us:P.underlying tUs=some (.slice tU)
  cis:P.cellsOf tIs=1
  cx:P.cellsOf tX=9
  cxs:P.cellsOf tXs=1
  cq:P.cellsOf tQ=1
  cu:P.cellsOf tU=1
  bi:P.bytesOf tI=8
  bx:P.bytesOf tX=112
  bu:P.bytesOf tU=1
structure frd (f:Fc):Prop where
  lim:f.lim
  lo:I64 f.lo
  hi:I64 f.hi
structure srd (W:World) (s:Stp):Prop where
  row:bE_ (vw W) s.ad (s.frm.flatMap dY_)
  fact:frd s.fact
  le:s.frm.length≤s.cap
  mx:s.cap≤17592186044416
structure prd (W:World) (y:Pf):Prop where
  row:bE_ (vw W) y.ad (y.l.flatMap Stp.cells)
  st:∀ s∈y.l,srd W s
  le:y.l.length≤y.cap
  mx:y.cap≤1256584717424
section
variable {H:Type} {enc:TypeId×Value→H} {P:Program} {W:World} {tI tB tS tSs tC tCs tA tAs tP tPs tF tIs tX tXs tQ tU tUs tQs:TypeId} (X:Tys P tI tB tS tSs tC tCs tA tAs tP tPs) (Y:TysR P tI tS tF tIs tX tXs tQ tU tUs)
include X Y
theorem ri_ {n:Nat} {cs:List Value} {x:DataW H×List MemPlace} (h:DataW.trod enc P W 0 (fun _=>true) true n tF cs=some x) (hw:wok (x.1.weights P tF)):∃ f:Fc,cs=f.cells∧frd f:=by
  obtain⟨fs,hu,hL⟩:=Y.f
  obtain⟨xs,m,hn,hx,hl,hlen,hf,hwe⟩:=fields_of hu hL h
  rw[hwe]at hw
  match xs,hlen with
  | [x0,x1,x2,x3,x4,x5],_ =>
  simp only[List.map_cons,List.map_nil,DataW.weightsEach,eh_]at hw
  have f0:=hf 0 _ rfl;have f1:=hf 1 _ rfl;have f2:=hf 2 _ rfl;have f3:=hf 3 _ rfl;have f4:=hf 4 _ rfl;have f5:=hf 5 _ rfl
  simp only[List.getElem?_cons_zero,List.getElem?_cons_succ,X.ci,X.cs1]at f0 f1 f2 f3 f4 f5
  obtain⟨k,e0,_,_⟩:=gb_ X f0
  obtain⟨a,e1,n1⟩:=Go.Vs.str_of X f1 hw.2.1
  obtain⟨b,e2,n2⟩:=Go.Vs.str_of X f2 hw.2.2.1
  obtain⟨r,e3,n3⟩:=Go.Vs.str_of X f3 hw.2.2.2.1
  obtain⟨lo,e4,l1,l2⟩:=gb_ X f4
  obtain⟨hi,e5,l3,l4⟩:=gb_ X f5
  rw[Y.cf]at hl
  match cs,hl with
  | [c0,c1,c2,c3,c4,c5],_ =>
  simp only[List.drop_succ_cons,List.drop_zero,List.take_succ_cons,List.take_zero,List.cons.injEq,and_true]at e0 e1 e2 e3 e4 e5
  subst e0 e1 e2 e3 e4 e5
  exact⟨⟨k,a,b,r,lo,hi⟩,rfl,⟨n1,n2,n3⟩,⟨l1,l2⟩,⟨l3,l4⟩⟩
theorem rh_ {n:Nat} {cs:List Value} {x:DataW H×List MemPlace} (h:DataW.trod enc P W 0 (fun _=>true) true n tIs cs=some x) (hw:wok (x.1.weights P tIs)) :
    ∃ (l:List Int) (ad:Option Addr) (cap:Nat),cs=[.slice ad l.length cap]∧bE_ (vw W) ad (l.flatMap dY_)∧l.length≤cap∧cap≤17592186044416:=by
  obtain⟨l,ad,cap,e,hrow,hq,hlc,hcap⟩:=ml_ dY_ 1 bz_ (by decide) (fun y:Int=>-9223372036854775808≤y∧y≤9223372036854775807) Y.is X.ci (fun m' _ cs' y hy _=>gb_ X hy) h hw
  rw[Y.bi]at hcap;simp only[reachBytes]at hcap
  exact⟨l,ad,cap,e,hrow,hlc,by omega⟩
theorem sQ_ {n:Nat} {cs:List Value} {x:DataW H×List MemPlace} (h:DataW.trod enc P W 0 (fun _=>true) true n tX cs=some x) (hw:wok (x.1.weights P tX)):∃ s:Stp,cs=s.cells∧srd W s:=by
  obtain⟨fs,hu,hL⟩:=Y.x
  obtain⟨xs,m,hn,hx,hl,hlen,hf,hwe⟩:=fields_of hu hL h
  rw[hwe]at hw
  match xs,hlen with
  | [x0,x1,x2,x3],_ =>
  simp only[List.map_cons,List.map_nil,DataW.weightsEach,eh_]at hw
  have f0:=hf 0 _ rfl;have f1:=hf 1 _ rfl;have f2:=hf 2 _ rfl;have f3:=hf 3 _ rfl
  simp only[List.getElem?_cons_zero,List.getElem?_cons_succ,X.ci,Y.cf,Y.cis]at f0 f1 f2 f3
  obtain⟨k,e0,_,_⟩:=gb_ X f0
  obtain⟨f,e1,bf⟩:=ri_ X Y f1 hw.2.1
  obtain⟨pc,e2,_,_⟩:=gb_ X f2
  obtain⟨l,ad,cap,e3,r3,l3,m3⟩:=rh_ X Y f3 hw.2.2.2.1
  rw[Y.cx]at hl
  match cs,hl with
  | [c0,c1,c2,c3,c4,c5,c6,c7,c8],_ =>
  simp only[List.drop_succ_cons,List.drop_zero,List.take_succ_cons,List.take_zero,List.cons.injEq,and_true,Fc.cells]at e0 e1 e2 e3
  refine⟨⟨k,f,pc,ad,cap,l⟩,?_,r3,bf,l3,m3⟩
  obtain⟨a1,a2,a3,a4,a5,a6⟩:=e1
  rw[e0,a1,a2,a3,a4,a5,a6,e2,e3];rfl
theorem rd_ {n:Nat} {cs:List Value} {x:DataW H×List MemPlace} (h:DataW.trod enc P W 0 (fun _=>true) true n tXs cs=some x) (hw:wok (x.1.weights P tXs)) :
    ∃ (l:List Stp) (ad:Option Addr) (cap:Nat),cs=[.slice ad l.length cap]∧bE_ (vw W) ad (l.flatMap Stp.cells)∧(∀ y∈l,srd W y)∧l.length≤cap∧cap≤1256584717424:=by
  have:Inhabited Stp:=⟨⟨0,zfc,0,none,0,[]⟩⟩
  obtain⟨l,ad,cap,e,hrow,hq,hlc,hcap⟩:=ml_ Stp.cells 9 Stp.cells_len (by decide) (srd W) Y.xs Y.cx (fun m' _ cs' y hy hwy=>sQ_ X Y hy hwy) h hw
  rw[Y.bx]at hcap;simp only[reachBytes]at hcap
  exact⟨l,ad,cap,e,hrow,hq,hlc,by omega⟩
theorem sR_ {n:Nat} {cs:List Value} {x:DataW H×List MemPlace} (h:DataW.trod enc P W 0 (fun _=>true) true n tQ cs=some x) (hw:wok (x.1.weights P tQ)):∃ y:Pf,cs=y.cells∧prd W y:=by
  obtain⟨fs,hu,hL⟩:=Y.q
  obtain⟨xs,m,hn2,hx,hl,hlen,hf,hwe⟩:=fields_of hu hL h
  rw[hwe]at hw
  match xs,hlen with
  | [x0],_ =>
  simp only[List.map_cons,List.map_nil,DataW.weightsEach,eh_]at hw
  have f0:=hf 0 _ rfl
  simp only[List.getElem?_cons_zero,Y.cxs]at f0
  obtain⟨l,ad,cap,e0,h1,h2,h3,h4⟩:=rd_ X Y f0 hw.1
  rw[Y.cq]at hl
  rw[List.drop_zero,List.take_of_length_le (by omega)]at e0
  exact⟨⟨l,ad,cap⟩,e0,h1,h2,h3,h4⟩
variable {base:Nat} {v:Value} {d:DataW H} {ps:List MemPlace}
theorem arg_fc (hval:Value.okWide P W .any base tF v) (h:DataW.Trod enc P W 0 (fun _=>true) true tF v d ps) (hw:wok (d.weights P tF)):∃ f:Fc,v=f.val∧frd f:=by
  obtain⟨fs,hu,_⟩:=Y.f
  unfold Value.okWide at hval
  rw[hu]at hval
  obtain⟨cs,rfl,_⟩:=hval
  obtain⟨n,hn⟩:=h
  obtain⟨f,e,h1⟩:=ri_ X Y hn hw
  refine⟨f,?_,h1⟩
  simp only[Value.cells]at e
  rw[Fc.val,← e]
theorem tR_ (hval:Value.okWide P W .any base tQ v) (h:DataW.Trod enc P W 0 (fun _=>true) true tQ v d ps) (hw:wok (d.weights P tQ)) :
    ∃ (l:List Stp) (ad:Option Addr) (cap:Nat),v=.agg #[.slice ad l.length cap]∧bE_ (vw W) ad (l.flatMap Stp.cells)∧(∀ y∈l,srd W y)∧l.length≤cap∧cap≤1256584717424:=by
  obtain⟨fs,hu,_⟩:=Y.q
  unfold Value.okWide at hval
  rw[hu]at hval
  obtain⟨cs,rfl,_⟩:=hval
  obtain⟨n,hn⟩:=h
  simp only[Value.cells]at hn
  obtain⟨y,e,h1,h2,h3,h4⟩:=sR_ X Y hn hw
  refine⟨y.l,y.ad,y.cap,?_,h1,h2,h3,h4⟩
  obtain⟨a⟩:=cs
  simp only at e
  subst e
  rfl
end
theorem qV_ {H:Type} {enc:TypeId×Value→H} {P:Program} {W:World} {ts te:TypeId} (hs:P.underlying ts=some (.slice te)) {n:Nat} {ad:Option Addr} {len cap:Nat} {x:DataW H×List MemPlace} (h:DataW.trod enc P W 0 (fun _=>true) true n ts [.slice ad len cap]=some x):ad=none→cap=0:=by
 intro e
 subst e
 rcases DataW.trod_slice hs h with⟨h0,_⟩|⟨a,l,c,elems,rest,m,hn,h0,_⟩
 ·cases h0;rfl
 cases h0
section
variable {H:Type} {enc:TypeId×Value→H} {P:Program} {W:World} {tI tB tS tSs tC tCs tA tAs tP tPs:TypeId} (X:Tys P tI tB tS tSs tC tCs tA tAs tP tPs) {base:Nat} {v:Value} {d:DataW H} {ps:List MemPlace}
include X
theorem tS_ (hval:Value.okWide P W .any base tPs v) (h:DataW.Trod enc P W 0 (fun _=>true) true tPs v d ps) (hw:wok (d.weights P tPs)) :
    ∃ (l:List Pc) (ad:Option Addr) (cap:Nat),v=.slice ad l.length cap∧bE_ (vw W) ad (l.flatMap Pc.cells)∧(∀ y∈l,y.lim)∧l.length≤cap∧cap≤1099511627744∧(ad=none→cap=0):=by
  obtain⟨a,len,cap,rfl⟩:=okWide_slice X.ps hval
  obtain⟨n,hn⟩:=h
  obtain⟨l,ad,cap',e,h1,h2,h3,h4⟩:=pcs_of X hn hw
  have z:=qV_ X.ps (e▸hn)
  simp only[Value.cells,List.cons.injEq,and_true]at e
  exact⟨l,ad,cap',e,h1,fun y hy=>by obtain⟨q1,q2,q3,q4,q5,q6⟩:=h2 y hy;exact⟨q1,q2,q3,q4,q5,q6⟩,h3,h4,z⟩
end
section
variable {H:Type} {enc:TypeId×Value→H} {P:Program} {W:World} {tI tS tF tIs tX tXs tQ tU tUs:TypeId} (Y:TysR P tI tS tF tIs tX tXs tQ tU tUs) {base:Nat} {v:Value} {d:DataW H} {ps:List MemPlace}
include Y
end
end Go.Proofs.YtaffcjgphlhppaaGreatDoor
