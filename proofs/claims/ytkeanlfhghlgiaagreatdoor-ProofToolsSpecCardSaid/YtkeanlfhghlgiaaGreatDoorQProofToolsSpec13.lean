/-
  Part of the proof of the law ProofToolsSpec over this seat: the small logic, the data, the contracts of functions (no condition).
-/
import Derived.Test.YtkeanlfhghlgiaaGreatDoorQProofToolsSpec12
import Derived.Test.YtkeanlfhghlgiaaGreatDoorQProofToolsSpec4
import Derived.Test.YtkeanlfhghlgiaaGreatDoorQProofToolsSpec9
import Derived.Shelf.Small.Bits
import Derived.Shelf.Small.Strs
import Derived.Shelf.Small.Wraps
import Derived.Shelf.Strconv.Itoa0
import Derived.Shelf.Strings.Search1
import Derived.Shelf.Strings.Search2
import Derived.Shelf.Strings.Search3
import Derived.Shelf.Strings.Cut
import Derived.Shelf.Strings.Count
import Derived.Shelf.LaysM
import Derived.Shelf.Strings.Shaped
import Derived.Shelf.Sort.Plain
import Derived.Shelf.Unicode.DecodeSlow
import Derived.Shelf.Slices.Reverse
import Derived.Ground.Names2Prog
import Derived.Shelf.Slices.CompactI
import Derived.Shelf.Slices.CompactS
import Derived.Shelf.Slices.Cells
import Derived.Shelf.Slices.In.SortNone
import Derived.Test.YtkeanlfhghlgiaaGreatDoorProg
set_option linter.unusedVariables false
set_option linter.unusedSimpArgs false
set_option linter.unusedSectionVars false
set_option maxHeartbeats 1000000
namespace Go.Proofs.YtkeanlfhghlgiaaGreatDoor
open Go Go.Sx Go.Proofs
attribute [local irreducible] Code.wp wpList wpAnyH
open Go.Vs
theorem dW_ (a b:Str):Fn0 Tryz.prog 116 #[str a,str b] (Fc.val (C_ a b)):=by
  refine w_ Tryz.func116 rfl rfl Tryz.ntmps116 rfl fun v0=>?_
  refine Zz 2 ?_
  refine J_ aa_ rfl fun b1=>Zz 6 ?_
  refine i_ (H_ dH_ rfl rfl) rfl (z_ 0 B_ rfl rfl rfl rfl rfl rfl (Zz 3 ?_))
  exact fy_ () (fun aa v h1 h2=>dk_ (us:=Fc.cells (C_ a b)) 0 Tryz.results116 aX_ B_ rfl rfl rfl aa v h1 h2) m_ zt
theorem fi_ (a r b:Str):Fn0 Tryz.prog 117 #[str a,str r,str b] (Fc.val (I_ a r b)):=by
  refine w_ Tryz.func117 rfl rfl Tryz.ntmps117 rfl fun v0=>?_
  refine Zz 2 ?_
  refine J_ aa_ rfl fun b1=>Zz 7 ?_
  refine i_ (H_ dH_ rfl rfl) rfl (z_ 0 B_ rfl rfl rfl rfl rfl rfl (Zz 3 ?_))
  exact fy_ () (fun aa v h1 h2=>dk_ (us:=Fc.cells (I_ a r b)) 0 Tryz.results117 aX_ B_ rfl rfl rfl aa v h1 h2) m_ zt
theorem pb_ (a r:Str) (lo hi:Int):Fn0 Tryz.prog 118 #[str a,str r,.int .i64 lo,.int .i64 hi] (Fc.val (T_ a r lo hi)):=by
  refine w_ Tryz.func118 rfl rfl Tryz.ntmps118 rfl fun v0=>?_
  refine Zz 2 ?_
  refine J_ aa_ rfl fun b1=>Zz 8 ?_
  refine i_ (H_ dH_ rfl rfl) rfl (z_ 0 B_ rfl rfl rfl rfl rfl rfl (Zz 3 ?_))
  exact fy_ () (fun aa v h1 h2=>dk_ (us:=Fc.cells (T_ a r lo hi)) 0 Tryz.results118 aX_ B_ rfl rfl rfl aa v h1 h2) m_ zt
def ec_ (f:Fc):Bool :=
  if f.kind=1 then decide (f.a≠[])&&decide (f.b≠[])&&decide (f.r=[])&&decide (f.lo=0)&&(f.hi==0)
  else if f.kind=2 then decide (f.a≠[])&&decide (f.b≠[])&&decide (f.r≠[])&&decide (f.lo=0)&&(f.hi==0)
  else if f.kind=3 then decide (f.a≠[])&&decide (f.b=[])&&decide (f.r≠[])&&decide (f.lo≥-1099511627776)&&decide (f.lo≤f.hi)&&decide (f.hi≤1099511627776)
  else false
theorem sn_ (f:Fc):ec_ f=wfB f:=by
 obtain⟨k,a,b,r,lo,hi⟩:=f
 rw[Bool.eq_iff_iff,lY_]
 unfold ec_ Fc.wf C_ I_ T_
 dsimp only
 by_cases h1:k=1
 ·subst h1;simp;constructor<;>(intro h;simp_all)
 rw[if_neg h1]
 by_cases h2:k=2
 ·subst h2;simp;constructor<;>(intro h;simp_all)
 rw[if_neg h2]
 by_cases h3:k=3
 ·subst h3;simp;constructor<;>(intro h;simp_all)
 rw[if_neg h3];simp[h1,h2,h3]
def bz_ (r:Int):Int×Int×Bool :=
  if r=1∨r=2 then (0,0,true) else if r=3 then (1,1,true) else if r=4 then (2,2,true) else if r=5 then (1,3,true) else if r=6 then (1,5,true) else if r=7 then (2,6,true) else if r=8 then (2,4,true) else if r=9 then (2,0,true) else if r=10 then (0,7,true) else if r=11 then (1,8,true) else if r=12∨r=13 then (2,0,true) else if r=14 then (1,9,true) else if r=15∨r=16 then (1,0,true) else (0,0,false)
def bu_ (x y:Fc):Bool:=decide (x.kind=3)&&decide (y.kind=3)&&decide (x.a=y.a)&&decide (x.r=y.r)
def bl_ (rule:Int) (x y:Fc) (p:Pc) (f:Fc):Bool :=
  if rule=1 then decide (f=C_ f.a f.a)
  else if rule=2 then decide (f=C_ f.a [42])
  else if rule=3 then decide (x=C_ f.a p.a)&&decide (f=C_ f.a p.c)
  else if rule=4 then decide (x=C_ f.a p.a)&&decide (y=C_ f.a p.b)&&decide (f=C_ f.a p.c)
  else if rule=5 then decide (x=C_ f.a p.a)&&decide (f=I_ f.a p.r p.c)
  else if rule=6 then decide (x=I_ f.a p.r f.b)&&decide (f=I_ f.a p.t f.b)
  else if rule=7 then decide (x=I_ f.a p.r x.b)&&decide (y=I_ x.b p.s f.b)&&decide (f=I_ f.a p.t f.b)
  else if rule=8 then decide (x=I_ f.a p.r x.b)&&decide (y=C_ x.b p.a)&&decide (f=C_ f.a p.c)
  else if rule=9 then decide (x.kind=2)&&decide (x=I_ f.a x.r x.b)&&decide (y=C_ x.b [33])&&decide (f=C_ f.a [33])
  else if rule=10 then decide (f=I_ f.a p.r f.a)
  else if rule=11 then decide (x=C_ f.a p.a)&&decide (f=T_ f.a p.r p.lo p.hi)
  else if rule=12 then bu_ x y&&decide (max x.lo y.lo≤min x.hi y.hi)&&decide (f=T_ x.a x.r (max x.lo y.lo) (min x.hi y.hi))
  else if rule=13 then bu_ x y&&decide (max x.lo y.lo>min x.hi y.hi)&&decide (f=C_ x.a [33])
  else if rule=14 then decide (x.kind=3)&&decide (x.r=p.r)&&decide (p.lo≤x.lo)&&decide (x.hi≤p.hi)&&decide (f=C_ x.a p.c)
  else if rule=15 then decide (x=C_ f.a [33])
  else if rule=16 then decide (x.kind=3)&&decide (f.kind=3)&&decide (x.a=f.a)&&decide (x.r=f.r)&&decide (f.lo≤x.lo)&&decide (x.hi≤f.hi)
  else false
theorem sm_ (f:Fc):Fn0 Tryz.prog 35 #[Fc.val f] (.bool (ec_ f)):=by
 refine w_ Tryz.func35 rfl rfl Tryz.ntmps35 rfl fun v0=>?_
 refine Zz 2 ?_
 refine as_ rfl rfl fun b1=>Zi 13 (fun hr1=>?_) fun hr1=>?_
 ·refine Zi 6 (fun hr2=>?_) fun hr2=>?_
  ·refine Zi 6 (fun hr3=>?_) fun hr3=>?_
   ·refine Zz 12 ?_
    exact al_ bM_ () (x_ rfl (by have p1:=eq_false hr1;have p2:=eq_false hr2;have p3:=eq_false hr3;simp only[ec_,p1,p2,p3,if_true,if_false,decide_true,decide_false,Bool.and_true,Bool.and_false,Bool.true_and,Bool.false_and,Bool.or_true,Bool.or_false,Bool.true_or,Bool.false_or,Bool.not_true,Bool.not_false,ne_eq,not_true_eq_false,not_false_eq_true,true_and,and_true,false_and,and_false,true_or,or_true,false_or,or_false,ite_true,ite_false,Bool.false_eq_true])) m_ zt
   refine Zi 8 (fun hr4=>?_) fun hr4=>?_
   ·refine Zz 31 ?_
    exact al_ bM_ () (x_ rfl (by have p1:=eq_false hr1;have p2:=eq_false hr2;have p3:=eq_true hr3;have p4:=eq_true hr4;simp only[ec_,p1,p2,p3,p4,if_true,if_false,decide_true,decide_false,Bool.and_true,Bool.and_false,Bool.true_and,Bool.false_and,Bool.or_true,Bool.or_false,Bool.true_or,Bool.false_or,Bool.not_true,Bool.not_false,ne_eq,not_true_eq_false,not_false_eq_true,true_and,and_true,false_and,and_false,true_or,or_true,false_or,or_false,ite_true,ite_false,Bool.false_eq_true])) m_ zt
   refine Zi 6 (fun hr5=>?_) fun hr5=>?_
   ·refine Zz 27 ?_
    exact al_ bM_ () (x_ rfl (by have p1:=eq_false hr1;have p2:=eq_false hr2;have p3:=eq_true hr3;have p4:=eq_false hr4;have p5:=eq_false hr5;simp only[ec_,p1,p2,p3,p4,p5,if_true,if_false,decide_true,decide_false,Bool.and_true,Bool.and_false,Bool.true_and,Bool.false_and,Bool.or_true,Bool.or_false,Bool.true_or,Bool.false_or,Bool.not_true,Bool.not_false,ne_eq,not_true_eq_false,not_false_eq_true,true_and,and_true,false_and,and_false,true_or,or_true,false_or,or_false,ite_true,ite_false,Bool.false_eq_true])) m_ zt
   refine Zi 7 (fun hr6=>?_) fun hr6=>?_
   ·refine Zz 22 ?_
    exact al_ bM_ () (x_ rfl (by have p1:=eq_false hr1;have p2:=eq_false hr2;have p3:=eq_true hr3;have p4:=eq_false hr4;have p5:=eq_true hr5;have p6:=eq_true hr6;simp only[ec_,p1,p2,p3,p4,p5,p6,if_true,if_false,decide_true,decide_false,Bool.and_true,Bool.and_false,Bool.true_and,Bool.false_and,Bool.or_true,Bool.or_false,Bool.true_or,Bool.false_or,Bool.not_true,Bool.not_false,ne_eq,not_true_eq_false,not_false_eq_true,true_and,and_true,false_and,and_false,true_or,or_true,false_or,or_false,ite_true,ite_false,Bool.false_eq_true])) m_ zt
   refine Zi 7 (fun hr7=>?_) fun hr7=>?_
   ·refine Zz 17 ?_
    exact al_ bM_ () (x_ rfl (by have p1:=eq_false hr1;have p2:=eq_false hr2;have p3:=eq_true hr3;have p4:=eq_false hr4;have p5:=eq_true hr5;have p6:=eq_false hr6;have p7:=eq_false hr7;simp only[ec_,p1,p2,p3,p4,p5,p6,p7,if_true,if_false,decide_true,decide_false,Bool.and_true,Bool.and_false,Bool.true_and,Bool.false_and,Bool.or_true,Bool.or_false,Bool.true_or,Bool.false_or,Bool.not_true,Bool.not_false,ne_eq,not_true_eq_false,not_false_eq_true,true_and,and_true,false_and,and_false,true_or,or_true,false_or,or_false,ite_true,ite_false,Bool.false_eq_true])) m_ zt
   refine Zi 11 (fun hr8=>?_) fun hr8=>?_
   ·refine Zz 10 ?_
    exact al_ bM_ () (x_ rfl (by have p1:=eq_false hr1;have p2:=eq_false hr2;have p3:=eq_true hr3;have p4:=eq_false hr4;have p5:=eq_true hr5;have p6:=eq_false hr6;have p7:=eq_true hr7;have p8:=eq_false hr8;simp only[ec_,p1,p2,p3,p4,p5,p6,p7,p8,if_true,if_false,decide_true,decide_false,Bool.and_true,Bool.and_false,Bool.true_and,Bool.false_and,Bool.or_true,Bool.or_false,Bool.true_or,Bool.false_or,Bool.not_true,Bool.not_false,ne_eq,not_true_eq_false,not_false_eq_true,true_and,and_true,false_and,and_false,true_or,or_true,false_or,or_false,ite_true,ite_false,Bool.false_eq_true])) m_ zt
   refine Zz 7 ?_
   refine aQ_ (ff_ rfl rfl) rfl fun r9 hr9=>Zz 5 ?_
   exact al_ bM_ () (x_ rfl (by have p1:=eq_false hr1;have p2:=eq_false hr2;have p3:=eq_true hr3;have p4:=eq_false hr4;have p5:=eq_true hr5;have p6:=eq_false hr6;have p7:=eq_true hr7;have p8:=eq_true hr8;rw[← hr9];simp only[ec_,p1,p2,p3,p4,p5,p6,p7,p8,if_true,if_false,decide_true,decide_false,Bool.and_true,Bool.and_false,Bool.true_and,Bool.false_and,Bool.or_true,Bool.or_false,Bool.true_or,Bool.false_or,Bool.not_true,Bool.not_false,ne_eq,not_true_eq_false,not_false_eq_true,true_and,and_true,false_and,and_false,true_or,or_true,false_or,or_false,ite_true,ite_false,Bool.false_eq_true])) m_ zt
  refine Zi 8 (fun hr10=>?_) fun hr10=>?_
  ·refine Zz 24 ?_
   exact al_ bM_ () (x_ rfl (by have p1:=eq_false hr1;have p2:=eq_true hr2;have p3:=eq_true hr10;simp only[ec_,p1,p2,p3,if_true,if_false,decide_true,decide_false,Bool.and_true,Bool.and_false,Bool.true_and,Bool.false_and,Bool.or_true,Bool.or_false,Bool.true_or,Bool.false_or,Bool.not_true,Bool.not_false,ne_eq,not_true_eq_false,not_false_eq_true,true_and,and_true,false_and,and_false,true_or,or_true,false_or,or_false,ite_true,ite_false,Bool.false_eq_true])) m_ zt
  refine Zi 6 (fun hr11=>?_) fun hr11=>?_
  ·refine Zz 20 ?_
   exact al_ bM_ () (x_ rfl (by have p1:=eq_false hr1;have p2:=eq_true hr2;have p3:=eq_false hr10;have p4:=eq_true hr11;simp only[ec_,p1,p2,p3,p4,if_true,if_false,decide_true,decide_false,Bool.and_true,Bool.and_false,Bool.true_and,Bool.false_and,Bool.or_true,Bool.or_false,Bool.true_or,Bool.false_or,Bool.not_true,Bool.not_false,ne_eq,not_true_eq_false,not_false_eq_true,true_and,and_true,false_and,and_false,true_or,or_true,false_or,or_false,ite_true,ite_false,Bool.false_eq_true])) m_ zt
  refine Zi 7 (fun hr12=>?_) fun hr12=>?_
  ·refine Zz 15 ?_
   exact al_ bM_ () (x_ rfl (by have p1:=eq_false hr1;have p2:=eq_true hr2;have p3:=eq_false hr10;have p4:=eq_false hr11;have p5:=eq_true hr12;simp only[ec_,p1,p2,p3,p4,p5,if_true,if_false,decide_true,decide_false,Bool.and_true,Bool.and_false,Bool.true_and,Bool.false_and,Bool.or_true,Bool.or_false,Bool.true_or,Bool.false_or,Bool.not_true,Bool.not_false,ne_eq,not_true_eq_false,not_false_eq_true,true_and,and_true,false_and,and_false,true_or,or_true,false_or,or_false,ite_true,ite_false,Bool.false_eq_true])) m_ zt
  refine Zi 7 (fun hr13=>?_) fun hr13=>?_
  ·refine Zz 10 ?_
   exact al_ bM_ () (x_ rfl (by have p1:=eq_false hr1;have p2:=eq_true hr2;have p3:=eq_false hr10;have p4:=eq_false hr11;have p5:=eq_false hr12;have p6:=eq_false hr13;simp only[ec_,p1,p2,p3,p4,p5,p6,if_true,if_false,decide_true,decide_false,Bool.and_true,Bool.and_false,Bool.true_and,Bool.false_and,Bool.or_true,Bool.or_false,Bool.true_or,Bool.false_or,Bool.not_true,Bool.not_false,ne_eq,not_true_eq_false,not_false_eq_true,true_and,and_true,false_and,and_false,true_or,or_true,false_or,or_false,ite_true,ite_false,Bool.false_eq_true])) m_ zt
  refine Zz 7 ?_
  refine aQ_ (dA_ rfl rfl) rfl fun r14 hr14=>Zz 5 ?_
  exact al_ bM_ () (x_ rfl (by have p1:=eq_false hr1;have p2:=eq_true hr2;have p3:=eq_false hr10;have p4:=eq_false hr11;have p5:=eq_false hr12;have p6:=eq_true hr13;rw[← hr14];simp only[ec_,p1,p2,p3,p4,p5,p6,if_true,if_false,decide_true,decide_false,Bool.and_true,Bool.and_false,Bool.true_and,Bool.false_and,Bool.or_true,Bool.or_false,Bool.true_or,Bool.false_or,Bool.not_true,Bool.not_false,ne_eq,not_true_eq_false,not_false_eq_true,true_and,and_true,false_and,and_false,true_or,or_true,false_or,or_false,ite_true,ite_false,Bool.false_eq_true])) m_ zt
 refine Zi 8 (fun hr15=>?_) fun hr15=>?_
 ·refine Zz 24 ?_
  exact al_ bM_ () (x_ rfl (by have p1:=eq_true hr1;have p2:=eq_true hr15;simp only[ec_,p1,p2,if_true,if_false,decide_true,decide_false,Bool.and_true,Bool.and_false,Bool.true_and,Bool.false_and,Bool.or_true,Bool.or_false,Bool.true_or,Bool.false_or,Bool.not_true,Bool.not_false,ne_eq,not_true_eq_false,not_false_eq_true,true_and,and_true,false_and,and_false,true_or,or_true,false_or,or_false,ite_true,ite_false,Bool.false_eq_true])) m_ zt
 refine Zi 6 (fun hr16=>?_) fun hr16=>?_
 ·refine Zz 20 ?_
  exact al_ bM_ () (x_ rfl (by have p1:=eq_true hr1;have p2:=eq_false hr15;have p3:=eq_true hr16;simp only[ec_,p1,p2,p3,if_true,if_false,decide_true,decide_false,Bool.and_true,Bool.and_false,Bool.true_and,Bool.false_and,Bool.or_true,Bool.or_false,Bool.true_or,Bool.false_or,Bool.not_true,Bool.not_false,ne_eq,not_true_eq_false,not_false_eq_true,true_and,and_true,false_and,and_false,true_or,or_true,false_or,or_false,ite_true,ite_false,Bool.false_eq_true])) m_ zt
 refine Zi 7 (fun hr17=>?_) fun hr17=>?_
 ·refine Zz 15 ?_
  exact al_ bM_ () (x_ rfl (by have p1:=eq_true hr1;have p2:=eq_false hr15;have p3:=eq_false hr16;have p4:=eq_false hr17;simp only[ec_,p1,p2,p3,p4,if_true,if_false,decide_true,decide_false,Bool.and_true,Bool.and_false,Bool.true_and,Bool.false_and,Bool.or_true,Bool.or_false,Bool.true_or,Bool.false_or,Bool.not_true,Bool.not_false,ne_eq,not_true_eq_false,not_false_eq_true,true_and,and_true,false_and,and_false,true_or,or_true,false_or,or_false,ite_true,ite_false,Bool.false_eq_true])) m_ zt
 refine Zi 7 (fun hr18=>?_) fun hr18=>?_
 ·refine Zz 10 ?_
  exact al_ bM_ () (x_ rfl (by have p1:=eq_true hr1;have p2:=eq_false hr15;have p3:=eq_false hr16;have p4:=eq_true hr17;have p5:=eq_false hr18;simp only[ec_,p1,p2,p3,p4,p5,if_true,if_false,decide_true,decide_false,Bool.and_true,Bool.and_false,Bool.true_and,Bool.false_and,Bool.or_true,Bool.or_false,Bool.true_or,Bool.false_or,Bool.not_true,Bool.not_false,ne_eq,not_true_eq_false,not_false_eq_true,true_and,and_true,false_and,and_false,true_or,or_true,false_or,or_false,ite_true,ite_false,Bool.false_eq_true])) m_ zt
 refine Zz 7 ?_
 refine aQ_ (dA_ rfl rfl) rfl fun r19 hr19=>Zz 5 ?_
 exact al_ bM_ () (x_ rfl (by have p1:=eq_true hr1;have p2:=eq_false hr15;have p3:=eq_false hr16;have p4:=eq_true hr17;have p5:=eq_true hr18;rw[← hr19];simp only[ec_,p1,p2,p3,p4,p5,if_true,if_false,decide_true,decide_false,Bool.and_true,Bool.and_false,Bool.true_and,Bool.false_and,Bool.or_true,Bool.or_false,Bool.true_or,Bool.false_or,Bool.not_true,Bool.not_false,ne_eq,not_true_eq_false,not_false_eq_true,true_and,and_true,false_and,and_false,true_or,or_true,false_or,or_false,ite_true,ite_false,Bool.false_eq_true])) m_ zt
theorem many_c (r:Int):Tri Tryz.prog 80 #[.int .i64 r] [] [] (fun y:{y:Int×Int×Bool // y=bz_ r}=>.tuple #[.int .i64 y.1.1,.int .i64 y.1.2.1,.bool y.1.2.2]) (fun _=>[]) (fun _=>[]):=by
 refine w_ Tryz.func80 rfl rfl Tryz.ntmps80 rfl fun v0=>?_
 refine Zi 17 (fun hr1=>?_) fun hr1=>?_
 ·refine Zi 5 (fun hr2=>?_) fun hr2=>?_
  ·refine Zi 6 (fun hr3=>?_) fun hr3=>?_
   ·refine Zi 6 (fun hr4=>?_) fun hr4=>?_
    ·refine Zi 6 (fun hr5=>?_) fun hr5=>?_
     ·refine Zi 6 (fun hr6=>?_) fun hr6=>?_
      ·refine Zi 6 (fun hr7=>?_) fun hr7=>?_
       ·refine Zi 6 (fun hr8=>?_) fun hr8=>?_
        ·refine Zi 6 (fun hr9=>?_) fun hr9=>?_
         ·refine Zi 6 (fun hr10=>?_) fun hr10=>?_
          ·refine Zi 6 (fun hr11=>?_) fun hr11=>?_
           ·refine Zi 7 (fun hr12=>?_) fun hr12=>?_
            ·refine Zi 5 (fun hr13=>?_) fun hr13=>?_
             ·refine Zi 6 (fun hr14=>?_) fun hr14=>?_
              ·refine Zi 7 (fun hr15=>?_) fun hr15=>?_
               ·refine Zi 5 (fun hr16=>?_) fun hr16=>?_
                ·refine Zz 14 ?_
                 exact fS_ bL_ ⟨(0,0,false),by have p1:=eq_false hr1;have p2:=eq_false hr2;have p3:=eq_false hr3;have p4:=eq_false hr4;have p5:=eq_false hr5;have p6:=eq_false hr6;have p7:=eq_false hr7;have p8:=eq_false hr8;have p9:=eq_false hr9;have p10:=eq_false hr10;have p11:=eq_false hr11;have p12:=eq_false hr12;have p13:=eq_false hr13;have p14:=eq_false hr14;have p15:=eq_false hr15;have p16:=eq_false hr16;simp only[bz_,p1,p2,p3,p4,p5,p6,p7,p8,p9,p10,p11,p12,p13,p14,p15,p16,if_true,if_false,decide_true,decide_false,Bool.and_true,Bool.and_false,Bool.true_and,Bool.false_and,Bool.or_true,Bool.or_false,Bool.true_or,Bool.false_or,Bool.not_true,Bool.not_false,ne_eq,not_true_eq_false,not_false_eq_true,true_and,and_true,false_and,and_false,true_or,or_true,false_or,or_false,ite_true,ite_false,Bool.false_eq_true]⟩ rfl rfl rfl rfl m_ zt
                refine Zz 12 ?_
                exact fS_ bL_ ⟨(1,0,true),by have p1:=eq_false hr1;have p2:=eq_false hr2;have p3:=eq_false hr3;have p4:=eq_false hr4;have p5:=eq_false hr5;have p6:=eq_false hr6;have p7:=eq_false hr7;have p8:=eq_false hr8;have p9:=eq_false hr9;have p10:=eq_false hr10;have p11:=eq_false hr11;have p12:=eq_false hr12;have p13:=eq_false hr13;have p14:=eq_false hr14;have p15:=eq_false hr15;have p16:=eq_true hr16;simp only[bz_,p1,p2,p3,p4,p5,p6,p7,p8,p9,p10,p11,p12,p13,p14,p15,p16,if_true,if_false,decide_true,decide_false,Bool.and_true,Bool.and_false,Bool.true_and,Bool.false_and,Bool.or_true,Bool.or_false,Bool.true_or,Bool.false_or,Bool.not_true,Bool.not_false,ne_eq,not_true_eq_false,not_false_eq_true,true_and,and_true,false_and,and_false,true_or,or_true,false_or,or_false,ite_true,ite_false,Bool.false_eq_true]⟩ rfl rfl rfl rfl m_ zt
               refine Zz 15 ?_
               exact fS_ bL_ ⟨(1,0,true),by have p1:=eq_false hr1;have p2:=eq_false hr2;have p3:=eq_false hr3;have p4:=eq_false hr4;have p5:=eq_false hr5;have p6:=eq_false hr6;have p7:=eq_false hr7;have p8:=eq_false hr8;have p9:=eq_false hr9;have p10:=eq_false hr10;have p11:=eq_false hr11;have p12:=eq_false hr12;have p13:=eq_false hr13;have p14:=eq_false hr14;have p15:=eq_true hr15;simp only[bz_,p1,p2,p3,p4,p5,p6,p7,p8,p9,p10,p11,p12,p13,p14,p15,if_true,if_false,decide_true,decide_false,Bool.and_true,Bool.and_false,Bool.true_and,Bool.false_and,Bool.or_true,Bool.or_false,Bool.true_or,Bool.false_or,Bool.not_true,Bool.not_false,ne_eq,not_true_eq_false,not_false_eq_true,true_and,and_true,false_and,and_false,true_or,or_true,false_or,or_false,ite_true,ite_false,Bool.false_eq_true]⟩ rfl rfl rfl rfl m_ zt
              refine Zz 12 ?_
              exact fS_ bL_ ⟨(1,9,true),by have p1:=eq_false hr1;have p2:=eq_false hr2;have p3:=eq_false hr3;have p4:=eq_false hr4;have p5:=eq_false hr5;have p6:=eq_false hr6;have p7:=eq_false hr7;have p8:=eq_false hr8;have p9:=eq_false hr9;have p10:=eq_false hr10;have p11:=eq_false hr11;have p12:=eq_false hr12;have p13:=eq_false hr13;have p14:=eq_true hr14;simp only[bz_,p1,p2,p3,p4,p5,p6,p7,p8,p9,p10,p11,p12,p13,p14,if_true,if_false,decide_true,decide_false,Bool.and_true,Bool.and_false,Bool.true_and,Bool.false_and,Bool.or_true,Bool.or_false,Bool.true_or,Bool.false_or,Bool.not_true,Bool.not_false,ne_eq,not_true_eq_false,not_false_eq_true,true_and,and_true,false_and,and_false,true_or,or_true,false_or,or_false,ite_true,ite_false,Bool.false_eq_true]⟩ rfl rfl rfl rfl m_ zt
             refine Zz 12 ?_
             exact fS_ bL_ ⟨(2,0,true),by have p1:=eq_false hr1;have p2:=eq_false hr2;have p3:=eq_false hr3;have p4:=eq_false hr4;have p5:=eq_false hr5;have p6:=eq_false hr6;have p7:=eq_false hr7;have p8:=eq_false hr8;have p9:=eq_false hr9;have p10:=eq_false hr10;have p11:=eq_false hr11;have p12:=eq_false hr12;have p13:=eq_true hr13;simp only[bz_,p1,p2,p3,p4,p5,p6,p7,p8,p9,p10,p11,p12,p13,if_true,if_false,decide_true,decide_false,Bool.and_true,Bool.and_false,Bool.true_and,Bool.false_and,Bool.or_true,Bool.or_false,Bool.true_or,Bool.false_or,Bool.not_true,Bool.not_false,ne_eq,not_true_eq_false,not_false_eq_true,true_and,and_true,false_and,and_false,true_or,or_true,false_or,or_false,ite_true,ite_false,Bool.false_eq_true]⟩ rfl rfl rfl rfl m_ zt
            refine Zz 15 ?_
            exact fS_ bL_ ⟨(2,0,true),by have p1:=eq_false hr1;have p2:=eq_false hr2;have p3:=eq_false hr3;have p4:=eq_false hr4;have p5:=eq_false hr5;have p6:=eq_false hr6;have p7:=eq_false hr7;have p8:=eq_false hr8;have p9:=eq_false hr9;have p10:=eq_false hr10;have p11:=eq_false hr11;have p12:=eq_true hr12;simp only[bz_,p1,p2,p3,p4,p5,p6,p7,p8,p9,p10,p11,p12,if_true,if_false,decide_true,decide_false,Bool.and_true,Bool.and_false,Bool.true_and,Bool.false_and,Bool.or_true,Bool.or_false,Bool.true_or,Bool.false_or,Bool.not_true,Bool.not_false,ne_eq,not_true_eq_false,not_false_eq_true,true_and,and_true,false_and,and_false,true_or,or_true,false_or,or_false,ite_true,ite_false,Bool.false_eq_true]⟩ rfl rfl rfl rfl m_ zt
           refine Zz 12 ?_
           exact fS_ bL_ ⟨(1,8,true),by have p1:=eq_false hr1;have p2:=eq_false hr2;have p3:=eq_false hr3;have p4:=eq_false hr4;have p5:=eq_false hr5;have p6:=eq_false hr6;have p7:=eq_false hr7;have p8:=eq_false hr8;have p9:=eq_false hr9;have p10:=eq_false hr10;have p11:=eq_true hr11;simp only[bz_,p1,p2,p3,p4,p5,p6,p7,p8,p9,p10,p11,if_true,if_false,decide_true,decide_false,Bool.and_true,Bool.and_false,Bool.true_and,Bool.false_and,Bool.or_true,Bool.or_false,Bool.true_or,Bool.false_or,Bool.not_true,Bool.not_false,ne_eq,not_true_eq_false,not_false_eq_true,true_and,and_true,false_and,and_false,true_or,or_true,false_or,or_false,ite_true,ite_false,Bool.false_eq_true]⟩ rfl rfl rfl rfl m_ zt
          refine Zz 12 ?_
          exact fS_ bL_ ⟨(0,7,true),by have p1:=eq_false hr1;have p2:=eq_false hr2;have p3:=eq_false hr3;have p4:=eq_false hr4;have p5:=eq_false hr5;have p6:=eq_false hr6;have p7:=eq_false hr7;have p8:=eq_false hr8;have p9:=eq_false hr9;have p10:=eq_true hr10;simp only[bz_,p1,p2,p3,p4,p5,p6,p7,p8,p9,p10,if_true,if_false,decide_true,decide_false,Bool.and_true,Bool.and_false,Bool.true_and,Bool.false_and,Bool.or_true,Bool.or_false,Bool.true_or,Bool.false_or,Bool.not_true,Bool.not_false,ne_eq,not_true_eq_false,not_false_eq_true,true_and,and_true,false_and,and_false,true_or,or_true,false_or,or_false,ite_true,ite_false,Bool.false_eq_true]⟩ rfl rfl rfl rfl m_ zt
         refine Zz 12 ?_
         exact fS_ bL_ ⟨(2,0,true),by have p1:=eq_false hr1;have p2:=eq_false hr2;have p3:=eq_false hr3;have p4:=eq_false hr4;have p5:=eq_false hr5;have p6:=eq_false hr6;have p7:=eq_false hr7;have p8:=eq_false hr8;have p9:=eq_true hr9;simp only[bz_,p1,p2,p3,p4,p5,p6,p7,p8,p9,if_true,if_false,decide_true,decide_false,Bool.and_true,Bool.and_false,Bool.true_and,Bool.false_and,Bool.or_true,Bool.or_false,Bool.true_or,Bool.false_or,Bool.not_true,Bool.not_false,ne_eq,not_true_eq_false,not_false_eq_true,true_and,and_true,false_and,and_false,true_or,or_true,false_or,or_false,ite_true,ite_false,Bool.false_eq_true]⟩ rfl rfl rfl rfl m_ zt
        refine Zz 12 ?_
        exact fS_ bL_ ⟨(2,4,true),by have p1:=eq_false hr1;have p2:=eq_false hr2;have p3:=eq_false hr3;have p4:=eq_false hr4;have p5:=eq_false hr5;have p6:=eq_false hr6;have p7:=eq_false hr7;have p8:=eq_true hr8;simp only[bz_,p1,p2,p3,p4,p5,p6,p7,p8,if_true,if_false,decide_true,decide_false,Bool.and_true,Bool.and_false,Bool.true_and,Bool.false_and,Bool.or_true,Bool.or_false,Bool.true_or,Bool.false_or,Bool.not_true,Bool.not_false,ne_eq,not_true_eq_false,not_false_eq_true,true_and,and_true,false_and,and_false,true_or,or_true,false_or,or_false,ite_true,ite_false,Bool.false_eq_true]⟩ rfl rfl rfl rfl m_ zt
       refine Zz 12 ?_
       exact fS_ bL_ ⟨(2,6,true),by have p1:=eq_false hr1;have p2:=eq_false hr2;have p3:=eq_false hr3;have p4:=eq_false hr4;have p5:=eq_false hr5;have p6:=eq_false hr6;have p7:=eq_true hr7;simp only[bz_,p1,p2,p3,p4,p5,p6,p7,if_true,if_false,decide_true,decide_false,Bool.and_true,Bool.and_false,Bool.true_and,Bool.false_and,Bool.or_true,Bool.or_false,Bool.true_or,Bool.false_or,Bool.not_true,Bool.not_false,ne_eq,not_true_eq_false,not_false_eq_true,true_and,and_true,false_and,and_false,true_or,or_true,false_or,or_false,ite_true,ite_false,Bool.false_eq_true]⟩ rfl rfl rfl rfl m_ zt
      refine Zz 12 ?_
      exact fS_ bL_ ⟨(1,5,true),by have p1:=eq_false hr1;have p2:=eq_false hr2;have p3:=eq_false hr3;have p4:=eq_false hr4;have p5:=eq_false hr5;have p6:=eq_true hr6;simp only[bz_,p1,p2,p3,p4,p5,p6,if_true,if_false,decide_true,decide_false,Bool.and_true,Bool.and_false,Bool.true_and,Bool.false_and,Bool.or_true,Bool.or_false,Bool.true_or,Bool.false_or,Bool.not_true,Bool.not_false,ne_eq,not_true_eq_false,not_false_eq_true,true_and,and_true,false_and,and_false,true_or,or_true,false_or,or_false,ite_true,ite_false,Bool.false_eq_true]⟩ rfl rfl rfl rfl m_ zt
     refine Zz 12 ?_
     exact fS_ bL_ ⟨(1,3,true),by have p1:=eq_false hr1;have p2:=eq_false hr2;have p3:=eq_false hr3;have p4:=eq_false hr4;have p5:=eq_true hr5;simp only[bz_,p1,p2,p3,p4,p5,if_true,if_false,decide_true,decide_false,Bool.and_true,Bool.and_false,Bool.true_and,Bool.false_and,Bool.or_true,Bool.or_false,Bool.true_or,Bool.false_or,Bool.not_true,Bool.not_false,ne_eq,not_true_eq_false,not_false_eq_true,true_and,and_true,false_and,and_false,true_or,or_true,false_or,or_false,ite_true,ite_false,Bool.false_eq_true]⟩ rfl rfl rfl rfl m_ zt
    refine Zz 12 ?_
    exact fS_ bL_ ⟨(2,2,true),by have p1:=eq_false hr1;have p2:=eq_false hr2;have p3:=eq_false hr3;have p4:=eq_true hr4;simp only[bz_,p1,p2,p3,p4,if_true,if_false,decide_true,decide_false,Bool.and_true,Bool.and_false,Bool.true_and,Bool.false_and,Bool.or_true,Bool.or_false,Bool.true_or,Bool.false_or,Bool.not_true,Bool.not_false,ne_eq,not_true_eq_false,not_false_eq_true,true_and,and_true,false_and,and_false,true_or,or_true,false_or,or_false,ite_true,ite_false,Bool.false_eq_true]⟩ rfl rfl rfl rfl m_ zt
   refine Zz 12 ?_
   exact fS_ bL_ ⟨(1,1,true),by have p1:=eq_false hr1;have p2:=eq_false hr2;have p3:=eq_true hr3;simp only[bz_,p1,p2,p3,if_true,if_false,decide_true,decide_false,Bool.and_true,Bool.and_false,Bool.true_and,Bool.false_and,Bool.or_true,Bool.or_false,Bool.true_or,Bool.false_or,Bool.not_true,Bool.not_false,ne_eq,not_true_eq_false,not_false_eq_true,true_and,and_true,false_and,and_false,true_or,or_true,false_or,or_false,ite_true,ite_false,Bool.false_eq_true]⟩ rfl rfl rfl rfl m_ zt
  refine Zz 12 ?_
  exact fS_ bL_ ⟨(0,0,true),by have p1:=eq_false hr1;have p2:=eq_true hr2;simp only[bz_,p1,p2,if_true,if_false,decide_true,decide_false,Bool.and_true,Bool.and_false,Bool.true_and,Bool.false_and,Bool.or_true,Bool.or_false,Bool.true_or,Bool.false_or,Bool.not_true,Bool.not_false,ne_eq,not_true_eq_false,not_false_eq_true,true_and,and_true,false_and,and_false,true_or,or_true,false_or,or_false,ite_true,ite_false,Bool.false_eq_true]⟩ rfl rfl rfl rfl m_ zt
 refine Zz 15 ?_
 exact fS_ bL_ ⟨(0,0,true),by have p1:=eq_true hr1;simp only[bz_,p1,if_true,if_false,decide_true,decide_false,Bool.and_true,Bool.and_false,Bool.true_and,Bool.false_and,Bool.or_true,Bool.or_false,Bool.true_or,Bool.false_or,Bool.not_true,Bool.not_false,ne_eq,not_true_eq_false,not_false_eq_true,true_and,and_true,false_and,and_false,true_or,or_true,false_or,or_false,ite_true,ite_false,Bool.false_eq_true]⟩ rfl rfl rfl rfl m_ zt
end Go.Proofs.YtkeanlfhghlgiaaGreatDoor
namespace Go.Proofs.YtkeanlfhghlgiaaGreatDoor
open Go Go.Sx Go.Proofs
attribute [local irreducible] Code.wp wpList wpAnyH
open Go.Vs
theorem cb1 {x y f:Fc} {p:Pc} (h:bl_ 1 x y p f=true):f=C_ f.a f.a:=by simpa [bl_,bu_,and_assoc] using h
theorem cb2 {x y f:Fc} {p:Pc} (h:bl_ 2 x y p f=true):f=C_ f.a [42]:=by simpa [bl_,bu_,and_assoc] using h
theorem cb3 {x y f:Fc} {p:Pc} (h:bl_ 3 x y p f=true):x=C_ f.a p.a∧f=C_ f.a p.c:=by simpa [bl_,bu_,and_assoc] using h
theorem cb4 {x y f:Fc} {p:Pc} (h:bl_ 4 x y p f=true):x=C_ f.a p.a∧y=C_ f.a p.b∧f=C_ f.a p.c:=by simpa [bl_,bu_,and_assoc] using h
theorem cb5 {x y f:Fc} {p:Pc} (h:bl_ 5 x y p f=true):x=C_ f.a p.a∧f=I_ f.a p.r p.c:=by simpa [bl_,bu_,and_assoc] using h
theorem cb6 {x y f:Fc} {p:Pc} (h:bl_ 6 x y p f=true):x=I_ f.a p.r f.b∧f=I_ f.a p.t f.b:=by simpa [bl_,bu_,and_assoc] using h
theorem cb7 {x y f:Fc} {p:Pc} (h:bl_ 7 x y p f=true):x=I_ f.a p.r x.b∧y=I_ x.b p.s f.b∧f=I_ f.a p.t f.b:=by simpa [bl_,bu_,and_assoc] using h
theorem cb8 {x y f:Fc} {p:Pc} (h:bl_ 8 x y p f=true):x=I_ f.a p.r x.b∧y=C_ x.b p.a∧f=C_ f.a p.c:=by simpa [bl_,bu_,and_assoc] using h
theorem cb9 {x y f:Fc} {p:Pc} (h:bl_ 9 x y p f=true):x.kind=2∧x=I_ f.a x.r x.b∧y=C_ x.b [33]∧f=C_ f.a [33]:=by simpa [bl_,bu_,and_assoc] using h
theorem cb10 {x y f:Fc} {p:Pc} (h:bl_ 10 x y p f=true):f=I_ f.a p.r f.a:=by simpa [bl_,bu_,and_assoc] using h
theorem cb11 {x y f:Fc} {p:Pc} (h:bl_ 11 x y p f=true):x=C_ f.a p.a∧f=T_ f.a p.r p.lo p.hi:=by simpa [bl_,bu_,and_assoc] using h
theorem qs_ {x y f:Fc} {p:Pc} (h:bl_ 12 x y p f=true):x.kind=3∧y.kind=3∧x.a=y.a∧x.r=y.r∧max x.lo y.lo≤min x.hi y.hi∧f=T_ x.a x.r (max x.lo y.lo) (min x.hi y.hi):=by simpa [bl_,bu_,and_assoc] using h
theorem qr_ {x y f:Fc} {p:Pc} (h:bl_ 13 x y p f=true):x.kind=3∧y.kind=3∧x.a=y.a∧x.r=y.r∧max x.lo y.lo>min x.hi y.hi∧f=C_ x.a [33]:=by simpa [bl_,bu_,and_assoc] using h
theorem qq_ {x y f:Fc} {p:Pc} (h:bl_ 14 x y p f=true):x.kind=3∧x.r=p.r∧p.lo≤x.lo∧x.hi≤p.hi∧f=C_ x.a p.c:=by simpa [bl_,bu_,and_assoc] using h
theorem cb15 {x y f:Fc} {p:Pc} (h:bl_ 15 x y p f=true):x=C_ f.a [33]:=by simpa [bl_,bu_,and_assoc] using h
theorem oF_ {x y f:Fc} {p:Pc} (h:bl_ 16 x y p f=true):x.kind=3∧f.kind=3∧x.a=f.a∧x.r=f.r∧f.lo≤x.lo∧x.hi≤f.hi:=by simpa [bl_,bu_,and_assoc] using h
theorem cbk3 {x y f:Fc} {p:Pc} (h:bl_ 3 x y p f=true):x.kind≠3:=by have q:=(cb3 h).1;rw[q];simp[C_,I_]
theorem cbk5 {x y f:Fc} {p:Pc} (h:bl_ 5 x y p f=true):x.kind≠3:=by have q:=(cb5 h).1;rw[q];simp[C_,I_]
theorem cbk6 {x y f:Fc} {p:Pc} (h:bl_ 6 x y p f=true):x.kind≠3:=by have q:=(cb6 h).1;rw[q];simp[C_,I_]
theorem cbk11 {x y f:Fc} {p:Pc} (h:bl_ 11 x y p f=true):x.kind≠3:=by have q:=(cb11 h).1;rw[q];simp[C_,I_]
theorem cbk15 {x y f:Fc} {p:Pc} (h:bl_ 15 x y p f=true):x.kind≠3:=by have q:=(cb15 h);rw[q];simp[C_,I_]
theorem cbk4 {x y f:Fc} {p:Pc} (h:bl_ 4 x y p f=true):x.kind≠3:=by have q:=(cb4 h).1;rw[q];simp[C_,I_]
theorem cbk7 {x y f:Fc} {p:Pc} (h:bl_ 7 x y p f=true):x.kind≠3:=by have q:=(cb7 h).1;rw[q];simp[C_,I_]
theorem cbk8 {x y f:Fc} {p:Pc} (h:bl_ 8 x y p f=true):x.kind≠3:=by have q:=(cb8 h).1;rw[q];simp[C_,I_]
theorem cbk9 {x y f:Fc} {p:Pc} (h:bl_ 9 x y p f=true):x.kind≠3:=by have q:=(cb9 h).2.1;rw[q];simp[C_,I_]
theorem tT_ (rule:Int) (lad:Option Addr) (lcap:Nat) (q:Pc) (f:Fc) (hs:rule=1∨rule=2∨rule=10) (hc:bl_ rule ⟨0,[],[],[],0,0⟩ ⟨0,[],[],[],0,0⟩ q f=true):Tri Tryz.prog 82 #[.int .i64 rule,.slice lad (List.length ([]:List Fc)) lcap,Pc.val q,Fc.val f] [] [af_ lad (List.flatMap Fc.cells ([]:List Fc))] (fun _:Unit=>.bool true) (fun _=>[]) (fun _=>[]):=by
 refine w_ Tryz.func82 rfl rfl Tryz.ntmps82 rfl fun v0=>?_
 refine Zz 2 ?_
 refine as_ rfl rfl fun b1=>as_ rfl rfl fun b2=>Zz 5 ?_
 refine i_ (H_ dH_ rfl rfl) rfl (J_ aa_ rfl fun b3=>z_ 0 B_ rfl rfl rfl rfl rfl rfl (Zz 4 ?_))
 refine i_ (H_ dH_ rfl rfl) rfl (J_ aa_ rfl fun b4=>z_ 0 B_ rfl rfl rfl rfl rfl rfl (Zz 6 ?_))
 refine i_ (aY_ (dX_ aj_ rfl) (show _=Value.int .i64 0 from rfl)) rfl (i_ (aY_ (dN_ rfl rfl) (show _=Value.bool false from congrArg Value.bool (by decide))) rfl (Zz 9 ?_))
 refine i_ (aY_ (dX_ aj_ rfl) (show _=Value.int .i64 0 from rfl)) rfl (i_ (aY_ (dN_ rfl rfl) (show _=Value.bool false from congrArg Value.bool (by decide))) rfl (Zz 9 ?_))
 refine i_ (aY_ (dA_ rfl rfl) (show _=Value.bool false from congrArg Value.bool (by decide))) rfl (Zz 28 ?_)
 refine i_ (cC_ rfl rfl) rfl (Zz 9 ?_)
 refine i_ (dg_ rfl rfl) rfl (Zi 12 (fun hr1=>?_) fun hr1=>?_)
 ·refine Zi 6 (fun hr2=>?_) fun hr2=>?_
  ·refine Zi 6 (fun hr3=>?_) fun hr3=>?_
   ·refine Zi 6 (fun hr4=>?_) fun hr4=>?_
    ·refine Zi 6 (fun hr5=>?_) fun hr5=>?_
     ·refine Zi 6 (fun hr6=>?_) fun hr6=>?_
      ·refine Zi 6 (fun hr7=>?_) fun hr7=>?_
       ·refine Zi 6 (fun hr8=>?_) fun hr8=>?_
        ·refine Zi 6 (fun hr9=>?_) fun hr9=>?_
         ·refine Zi 6 (fun hr10=>?_) fun hr10=>?_
          ·refine Zi 6 (fun hr11=>?_) fun hr11=>?_
           ·refine Zi 6 (fun hr12=>?_) fun hr12=>?_
            ·refine Zi 6 (fun hr13=>?_) fun hr13=>?_
             ·refine Zi 6 (fun hr14=>?_) fun hr14=>?_
              ·refine Zi 6 (fun hr15=>?_) fun hr15=>?_
               ·refine Zi 6 (fun hr16=>?_) fun hr16=>?_
                ·refine Zz 12 ?_
                 exfalso;omega
                omega
               omega
              omega
             omega
            omega
           omega
          refine Zz 6 ?_
          refine s_ 3 [0,1,2,3,4,5,6] zk zs (Zz 8 ?_)
          refine j_ 7 rfl zk (n_ (fi_ f.a q.r f.a) rfl m_ zt rfl fun _=>Zz 3 ?_)
          refine s_ 0 [8,9] zk zs (cI_ rfl (aH_ (p:=f) (q:=(I_ f.a q.r f.a)) rfl rfl) rfl fun r17 hr17=>Zz 5 ?_)
          exact al_ bT_ () (x_ rfl (by rw[← hr17];simpa using cb10 (by rwa [hr10]at hc))) m_ zt
         omega
        omega
       omega
      omega
     omega
    omega
   omega
  refine Zz 6 ?_
  refine s_ 3 [0,1,2] zk zs (Zz 4 ?_)
  refine j_ 3 rfl zk (n_ (dW_ f.a [42]) rfl m_ zt rfl fun _=>Zz 3 ?_)
  refine s_ 0 [4,5] zk zs (cI_ rfl (aH_ (p:=f) (q:=(C_ f.a [42])) rfl rfl) rfl fun r18 hr18=>Zz 5 ?_)
  exact al_ bT_ () (x_ rfl (by rw[← hr18];simpa using cb2 (by rwa [hr2]at hc))) m_ zt
 refine Zz 6 ?_
 refine s_ 3 [0,1,2,3,4] zk zs (Zz 6 ?_)
 refine j_ 5 rfl zk (n_ (dW_ f.a f.a) rfl m_ zt rfl fun _=>Zz 3 ?_)
 refine s_ 0 [6,7] zk zs (cI_ rfl (aH_ (p:=f) (q:=(C_ f.a f.a)) rfl rfl) rfl fun r19 hr19=>Zz 5 ?_)
 exact al_ bT_ () (x_ rfl (by rw[← hr19];simpa using cb1 (by rwa [hr1]at hc))) m_ zt
theorem tS_ (rule:Int) (x:Fc) (lad:Option Addr) (lcap:Nat) (q:Pc) (f:Fc) (hs:rule=3∨rule=5∨rule=6∨rule=11∨rule=14∨rule=15∨rule=16) (hc:bl_ rule x ⟨0,[],[],[],0,0⟩ q f=true):Tri Tryz.prog 82 #[.int .i64 rule,.slice lad (List.length [x]) lcap,Pc.val q,Fc.val f] [] [af_ lad (List.flatMap Fc.cells [x])] (fun _:Unit=>.bool true) (fun _=>[]) (fun _=>[]):=by
 refine w_ Tryz.func82 rfl rfl Tryz.ntmps82 rfl fun v0=>?_
 refine Zz 2 ?_
 refine as_ rfl rfl fun b1=>as_ rfl rfl fun b2=>Zz 5 ?_
 refine i_ (H_ dH_ rfl rfl) rfl (J_ aa_ rfl fun b3=>z_ 0 B_ rfl rfl rfl rfl rfl rfl (Zz 4 ?_))
 refine i_ (H_ dH_ rfl rfl) rfl (J_ aa_ rfl fun b4=>z_ 0 B_ rfl rfl rfl rfl rfl rfl (Zz 6 ?_))
 refine i_ (aY_ (dX_ aj_ rfl) (show _=Value.int .i64 1 from rfl)) rfl (i_ (aY_ (dN_ rfl rfl) (show _=Value.bool true from congrArg Value.bool (by decide))) rfl (Zz 5 ?_))
 refine i_ (X_ aj_ B_ rfl rfl (fun v _ h=>G_ (n:=6) Fc.cells_len (by decide) (by exact h.1) (show [x][0]? = some x from rfl)) (by omega) (by first|omega|(simp;done))) rfl ?_
 refine i_ (bi_ (ad:=lad) (us:=Fc.cells x) aX_ B_ rfl zf (Fc.cells_len _) (t_ Fc.cells_len (show [x][0]? = some x from rfl))) rfl (z_ 1 B_ rfl rfl rfl rfl rfl rfl (Zz 6 ?_))
 refine i_ (aY_ (dX_ aj_ rfl) (show _=Value.int .i64 1 from rfl)) rfl (i_ (aY_ (dN_ rfl rfl) (show _=Value.bool false from congrArg Value.bool (by decide))) rfl (Zi 9 (fun hr1=>?_) fun hr1=>?_))
 ·refine Zz 28 ?_
  refine i_ (cC_ rfl rfl) rfl (Zz 9 ?_)
  refine i_ (dg_ rfl rfl) rfl (Zi 12 (fun hr2=>?_) fun hr2=>?_)
  ·refine Zi 6 (fun hr3=>?_) fun hr3=>?_
   ·refine Zi 6 (fun hr4=>?_) fun hr4=>?_
    ·refine Zi 6 (fun hr5=>?_) fun hr5=>?_
     ·refine Zi 6 (fun hr6=>?_) fun hr6=>?_
      ·refine Zi 6 (fun hr7=>?_) fun hr7=>?_
       ·refine Zi 6 (fun hr8=>?_) fun hr8=>?_
        ·refine Zi 6 (fun hr9=>?_) fun hr9=>?_
         ·refine Zi 6 (fun hr10=>?_) fun hr10=>?_
          ·refine Zi 6 (fun hr11=>?_) fun hr11=>?_
           ·refine Zi 6 (fun hr12=>?_) fun hr12=>?_
            ·refine Zi 6 (fun hr13=>?_) fun hr13=>?_
             ·refine Zi 6 (fun hr14=>?_) fun hr14=>?_
              ·refine Zi 6 (fun hr15=>?_) fun hr15=>?_
               ·refine Zi 6 (fun hr16=>?_) fun hr16=>?_
                ·refine Zi 6 (fun hr17=>?_) fun hr17=>?_
                 ·refine Zz 12 ?_
                  exfalso;omega
                 exact absurd (oF_ (by rwa [hr17]at hc)).1 hr1
                refine Zz 6 ?_
                refine s_ 3 [0,1,2] zk zs (Zz 4 ?_)
                refine j_ 3 rfl zk (n_ (dW_ f.a [33]) rfl m_ zt rfl fun _=>Zz 3 ?_)
                refine s_ 0 [4,5] zk zs (cI_ rfl (aH_ (p:=x) (q:=(C_ f.a [33])) rfl rfl) rfl fun r18 hr18=>Zz 5 ?_)
                exact al_ bT_ () (x_ rfl (by rw[← hr18];simpa using cb15 (by rwa [hr16]at hc))) m_ zt
               exact absurd (qq_ (by rwa [hr15]at hc)).1 hr1
              omega
             omega
            refine Zz 6 ?_
            refine s_ 16 [0,1,2,3,4] zk zs (Zz 6 ?_)
            refine j_ 5 rfl zk (n_ (dW_ f.a q.a) rfl m_ zt rfl fun _=>Zz 3 ?_)
            refine s_ 13 [6,7] zk zs (cI_ rfl (aH_ (p:=x) (q:=(C_ f.a q.a)) rfl rfl) rfl fun r19 hr19=>Zz 2 ?_)
            cases r19
            ·replace hr19:=zdf hr19
             exact absurd (cb11 (by rwa [hr12]at hc)).1 hr19
            replace hr19:=zdt hr19
            refine s_ 4 [8,9,10,11,12,13,14,15,16] zk zs (Zz 10 ?_)
            refine j_ 17 rfl zk (aJ_ rfl rfl (n_ (pb_ f.a q.r q.lo q.hi) rfl m_ zt rfl fun _=>Zz 3 ?_))
            refine s_ 0 [18,19,20] zk zs (bK_ rfl rfl rfl (aH_ (p:=f) (q:=(T_ f.a q.r q.lo q.hi)) rfl rfl) rfl fun r20 hr20=>Zz 6 ?_)
            exact al_ bT_ () (x_ rfl (by rw[← hr20];simpa using (cb11 (by rwa [hr12]at hc)).2)) m_ zt
           omega
          omega
         omega
        omega
       refine Zz 6 ?_
       refine s_ 14 [0,1,2,3,4,5,6] zk zs (Zz 8 ?_)
       refine j_ 7 rfl zk (n_ (fi_ f.a q.r f.b) rfl m_ zt rfl fun _=>Zz 3 ?_)
       refine s_ 11 [8,9] zk zs (cI_ rfl (aH_ (p:=x) (q:=(I_ f.a q.r f.b)) rfl rfl) rfl fun r21 hr21=>Zz 2 ?_)
       cases r21
       ·replace hr21:=zdf hr21
        exact absurd (cb6 (by rwa [hr7]at hc)).1 hr21
       replace hr21:=zdt hr21
       refine s_ 4 [10,11,12,13,14,15,16] zk zs (Zz 8 ?_)
       refine j_ 17 rfl zk (aJ_ rfl rfl (n_ (fi_ f.a q.t f.b) rfl m_ zt rfl fun _=>Zz 3 ?_))
       refine s_ 0 [18,19,20] zk zs (bK_ rfl rfl rfl (aH_ (p:=f) (q:=(I_ f.a q.t f.b)) rfl rfl) rfl fun r22 hr22=>Zz 6 ?_)
       exact al_ bT_ () (x_ rfl (by rw[← hr22];simpa using (cb6 (by rwa [hr7]at hc)).2)) m_ zt
      refine Zz 6 ?_
      refine s_ 14 [0,1,2,3,4] zk zs (Zz 6 ?_)
      refine j_ 5 rfl zk (n_ (dW_ f.a q.a) rfl m_ zt rfl fun _=>Zz 3 ?_)
      refine s_ 11 [6,7] zk zs (cI_ rfl (aH_ (p:=x) (q:=(C_ f.a q.a)) rfl rfl) rfl fun r23 hr23=>Zz 2 ?_)
      cases r23
      ·replace hr23:=zdf hr23
       exact absurd (cb5 (by rwa [hr6]at hc)).1 hr23
      replace hr23:=zdt hr23
      refine s_ 4 [8,9,10,11,12,13,14] zk zs (Zz 8 ?_)
      refine j_ 15 rfl zk (aJ_ rfl rfl (n_ (fi_ f.a q.r q.c) rfl m_ zt rfl fun _=>Zz 3 ?_))
      refine s_ 0 [16,17,18] zk zs (bK_ rfl rfl rfl (aH_ (p:=f) (q:=(I_ f.a q.r q.c)) rfl rfl) rfl fun r24 hr24=>Zz 6 ?_)
      exact al_ bT_ () (x_ rfl (by rw[← hr24];simpa using (cb5 (by rwa [hr6]at hc)).2)) m_ zt
     omega
    refine Zz 6 ?_
    refine s_ 12 [0,1,2,3,4] zk zs (Zz 6 ?_)
    refine j_ 5 rfl zk (n_ (dW_ f.a q.a) rfl m_ zt rfl fun _=>Zz 3 ?_)
    refine s_ 9 [6,7] zk zs (cI_ rfl (aH_ (p:=x) (q:=(C_ f.a q.a)) rfl rfl) rfl fun r25 hr25=>Zz 2 ?_)
    cases r25
    ·replace hr25:=zdf hr25
     exact absurd (cb3 (by rwa [hr4]at hc)).1 hr25
    replace hr25:=zdt hr25
    refine s_ 4 [8,9,10,11,12] zk zs (Zz 6 ?_)
    refine j_ 13 rfl zk (aJ_ rfl rfl (n_ (dW_ f.a q.c) rfl m_ zt rfl fun _=>Zz 3 ?_))
    refine s_ 0 [14,15,16] zk zs (bK_ rfl rfl rfl (aH_ (p:=f) (q:=(C_ f.a q.c)) rfl rfl) rfl fun r26 hr26=>Zz 6 ?_)
    exact al_ bT_ () (x_ rfl (by rw[← hr26];simpa using (cb3 (by rwa [hr4]at hc)).2)) m_ zt
   omega
  omega
 refine Zz 6 ?_
 refine i_ (aY_ (dA_ rfl rfl) (show _=Value.bool false from congrArg Value.bool (by decide))) rfl (Zz 24 ?_)
 refine i_ (cC_ rfl rfl) rfl (Zz 9 ?_)
 refine i_ (dg_ rfl rfl) rfl (Zi 12 (fun hr27=>?_) fun hr27=>?_)
 ·refine Zi 6 (fun hr28=>?_) fun hr28=>?_
  ·refine Zi 6 (fun hr29=>?_) fun hr29=>?_
   ·refine Zi 6 (fun hr30=>?_) fun hr30=>?_
    ·refine Zi 6 (fun hr31=>?_) fun hr31=>?_
     ·refine Zi 6 (fun hr32=>?_) fun hr32=>?_
      ·refine Zi 6 (fun hr33=>?_) fun hr33=>?_
       ·refine Zi 6 (fun hr34=>?_) fun hr34=>?_
        ·refine Zi 6 (fun hr35=>?_) fun hr35=>?_
         ·refine Zi 6 (fun hr36=>?_) fun hr36=>?_
          ·refine Zi 6 (fun hr37=>?_) fun hr37=>?_
           ·refine Zi 6 (fun hr38=>?_) fun hr38=>?_
            ·refine Zi 6 (fun hr39=>?_) fun hr39=>?_
             ·refine Zi 6 (fun hr40=>?_) fun hr40=>?_
              ·refine Zi 6 (fun hr41=>?_) fun hr41=>?_
               ·refine Zi 6 (fun hr42=>?_) fun hr42=>?_
                ·refine Zz 12 ?_
                 exfalso;omega
                refine Zi 8 (fun hr43=>?_) fun hr43=>?_
                ·exact absurd (oF_ (by rwa [hr42]at hc)).1 hr43
                refine Zi 6 (fun hr44=>?_) fun hr44=>?_
                ·exact absurd (oF_ (by rwa [hr42]at hc)).2.1 hr44
                refine Zi 11 (fun hr45=>?_) fun hr45=>?_
                ·exact absurd (oF_ (by rwa [hr42]at hc)).2.2.1 hr45
                refine Zi 11 (fun hr46=>?_) fun hr46=>?_
                ·exact absurd (oF_ (by rwa [hr42]at hc)).2.2.2.1 hr46
                refine Zi 11 (fun hr47=>?_) fun hr47=>?_
                ·exact absurd (oF_ (by rwa [hr42]at hc)).2.2.2.2.1 hr47
                refine Zz 11 ?_
                refine aQ_ (ff_ rfl rfl) rfl fun r48 hr48=>Zz 5 ?_
                exact al_ bT_ () (x_ rfl (by rw[← hr48];simpa using (oF_ (by rwa [hr42]at hc)).2.2.2.2.2)) m_ zt
               exact absurd hr1 (cbk15 (by rwa [hr41]at hc))
              refine Zz 6 ?_
              refine s_ 30 [0,1,2,3] zk zs (Zi 2 (fun hr49=>?_) fun hr49=>?_)
              ·exact absurd (qq_ (by rwa [hr40]at hc)).1 hr49
              refine Zz 2 ?_
              refine s_ 23 [4,5,6,7,8,9,10] zk zs (Zi 4 (fun hr50=>?_) fun hr50=>?_)
              ·exact absurd (qq_ (by rwa [hr40]at hc)).2.1 hr50
              refine Zz 3 ?_
              refine s_ 16 [11,12,13,14,15,16,17] zk zs (Zi 4 (fun hr51=>?_) fun hr51=>?_)
              ·exact absurd (qq_ (by rwa [hr40]at hc)).2.2.1 hr51
              refine Zz 3 ?_
              refine s_ 9 [18,19,20,21,22,23,24] zk zs (Zi 4 (fun hr52=>?_) fun hr52=>?_)
              ·exact absurd (qq_ (by rwa [hr40]at hc)).2.2.2.1 hr52
              refine Zz 3 ?_
              refine s_ 4 [25,26,27,28,29] zk zs (Zz 6 ?_)
              refine j_ 30 rfl zk (aJ_ rfl rfl (n_ (dW_ x.a q.c) rfl m_ zt rfl fun _=>Zz 3 ?_))
              refine s_ 0 [31,32,33] zk zs (bK_ rfl rfl rfl (aH_ (p:=f) (q:=(C_ x.a q.c)) rfl rfl) rfl fun r53 hr53=>Zz 6 ?_)
              exact al_ bT_ () (x_ rfl (by rw[← hr53];simpa using (qq_ (by rwa [hr40]at hc)).2.2.2.2)) m_ zt
             omega
            omega
           exact absurd hr1 (cbk11 (by rwa [hr37]at hc))
          omega
         omega
        omega
       omega
      exact absurd hr1 (cbk6 (by rwa [hr32]at hc))
     exact absurd hr1 (cbk5 (by rwa [hr31]at hc))
    omega
   exact absurd hr1 (cbk3 (by rwa [hr29]at hc))
  omega
 omega
theorem tR_ (rule:Int) (x y:Fc) (lad:Option Addr) (lcap:Nat) (q:Pc) (f:Fc) (hs:rule=4∨rule=7∨rule=8∨rule=9∨rule=12∨rule=13) (hc:bl_ rule x y q f=true):Tri Tryz.prog 82 #[.int .i64 rule,.slice lad (List.length [x,y]) lcap,Pc.val q,Fc.val f] [] [af_ lad (List.flatMap Fc.cells [x,y])] (fun _:Unit=>.bool true) (fun _=>[]) (fun _=>[]):=by
 refine w_ Tryz.func82 rfl rfl Tryz.ntmps82 rfl fun v0=>?_
 refine Zz 2 ?_
 refine as_ rfl rfl fun b1=>as_ rfl rfl fun b2=>Zz 5 ?_
 refine i_ (H_ dH_ rfl rfl) rfl (J_ aa_ rfl fun b3=>z_ 0 B_ rfl rfl rfl rfl rfl rfl (Zz 4 ?_))
 refine i_ (H_ dH_ rfl rfl) rfl (J_ aa_ rfl fun b4=>z_ 0 B_ rfl rfl rfl rfl rfl rfl (Zz 6 ?_))
 refine i_ (aY_ (dX_ aj_ rfl) (show _=Value.int .i64 2 from rfl)) rfl (i_ (aY_ (dN_ rfl rfl) (show _=Value.bool true from congrArg Value.bool (by decide))) rfl (Zz 5 ?_))
 refine i_ (X_ aj_ B_ rfl rfl (fun v _ h=>G_ (n:=6) Fc.cells_len (by decide) (by exact h.1) (show [x,y][0]? = some x from rfl)) (by omega) (by first|omega|(simp;done))) rfl ?_
 refine i_ (bi_ (ad:=lad) (us:=Fc.cells x) aX_ B_ rfl zf (Fc.cells_len _) (t_ Fc.cells_len (show [x,y][0]? = some x from rfl))) rfl (z_ 1 B_ rfl rfl rfl rfl rfl rfl (Zz 6 ?_))
 refine i_ (aY_ (dX_ aj_ rfl) (show _=Value.int .i64 2 from rfl)) rfl (i_ (aY_ (dN_ rfl rfl) (show _=Value.bool true from congrArg Value.bool (by decide))) rfl (Zz 5 ?_))
 refine i_ (X_ aj_ B_ rfl rfl (fun v _ h=>G_ (n:=6) Fc.cells_len (by decide) (by exact h.1) (show [x,y][1]? = some y from rfl)) (by omega) (by first|omega|(simp;done))) rfl ?_
 refine i_ (bi_ (ad:=lad) (us:=Fc.cells y) aX_ B_ rfl zf (Fc.cells_len _) (t_ Fc.cells_len (show [x,y][1]? = some y from rfl))) rfl (z_ 0 B_ rfl rfl rfl rfl rfl rfl (Zi 6 (fun hr1=>?_) fun hr1=>?_))
 ·refine Zz 28 ?_
  refine i_ (cC_ rfl rfl) rfl (Zz 9 ?_)
  refine i_ (dg_ rfl rfl) rfl (Zi 12 (fun hr2=>?_) fun hr2=>?_)
  ·refine Zi 6 (fun hr3=>?_) fun hr3=>?_
   ·refine Zi 6 (fun hr4=>?_) fun hr4=>?_
    ·refine Zi 6 (fun hr5=>?_) fun hr5=>?_
     ·refine Zi 6 (fun hr6=>?_) fun hr6=>?_
      ·refine Zi 6 (fun hr7=>?_) fun hr7=>?_
       ·refine Zi 6 (fun hr8=>?_) fun hr8=>?_
        ·refine Zi 6 (fun hr9=>?_) fun hr9=>?_
         ·refine Zi 6 (fun hr10=>?_) fun hr10=>?_
          ·refine Zi 6 (fun hr11=>?_) fun hr11=>?_
           ·refine Zi 6 (fun hr12=>?_) fun hr12=>?_
            ·refine Zi 6 (fun hr13=>?_) fun hr13=>?_
             ·refine Zi 6 (fun hr14=>?_) fun hr14=>?_
              ·refine Zi 6 (fun hr15=>?_) fun hr15=>?_
               ·refine Zi 6 (fun hr16=>?_) fun hr16=>?_
                ·refine Zi 6 (fun hr17=>?_) fun hr17=>?_
                 ·refine Zz 12 ?_
                  exfalso;omega
                 omega
                omega
               omega
              exact absurd (qr_ (by rwa [hr14]at hc)).1 hr1
             exact absurd (qs_ (by rwa [hr13]at hc)).1 hr1
            omega
           omega
          refine Zz 6 ?_
          refine s_ 25 [0,1,2,3] zk zs (Zi 2 (fun hr18=>?_) fun hr18=>?_)
          ·exact absurd (cb9 (by rwa [hr10]at hc)).1 hr18
          refine Zz 2 ?_
          refine s_ 18 [4,5,6,7,8,9,10] zk zs (Zz 8 ?_)
          refine j_ 11 rfl zk (aJ_ rfl rfl (n_ (fi_ f.a x.r x.b) rfl m_ zt rfl fun _=>Zz 3 ?_))
          refine s_ 14 [12,13,14] zk zs (bK_ rfl rfl rfl (aH_ (p:=x) (q:=(I_ f.a x.r x.b)) rfl rfl) rfl fun r19 hr19=>Zz 3 ?_)
          cases r19
          ·replace hr19:=zdf hr19
           exact absurd (cb9 (by rwa [hr10]at hc)).2.1 hr19
          replace hr19:=zdt hr19
          refine s_ 11 [15,16,17] zk zs (Zz 4 ?_)
          refine j_ 18 rfl zk (aJ_ rfl rfl (n_ (dW_ x.b [33]) rfl m_ zt rfl fun _=>Zz 3 ?_))
          refine s_ 7 [19,20,21] zk zs (bK_ rfl rfl rfl (aH_ (p:=y) (q:=(C_ x.b [33])) rfl rfl) rfl fun r20 hr20=>Zz 3 ?_)
          cases r20
          ·replace hr20:=zdf hr20
           exact absurd (cb9 (by rwa [hr10]at hc)).2.2.1 hr20
          replace hr20:=zdt hr20
          refine s_ 4 [22,23,24] zk zs (Zz 4 ?_)
          refine j_ 25 rfl zk (aJ_ rfl rfl (n_ (dW_ f.a [33]) rfl m_ zt rfl fun _=>Zz 3 ?_))
          refine s_ 0 [26,27,28] zk zs (bK_ rfl rfl rfl (aH_ (p:=f) (q:=(C_ f.a [33])) rfl rfl) rfl fun r21 hr21=>Zz 6 ?_)
          exact al_ bT_ () (x_ rfl (by rw[← hr21];simpa using (cb9 (by rwa [hr10]at hc)).2.2.2)) m_ zt
         refine Zz 6 ?_
         refine s_ 21 [0,1,2,3,4,5,6] zk zs (Zz 8 ?_)
         refine j_ 7 rfl zk (n_ (fi_ f.a q.r x.b) rfl m_ zt rfl fun _=>Zz 3 ?_)
         refine s_ 18 [8,9] zk zs (cI_ rfl (aH_ (p:=x) (q:=(I_ f.a q.r x.b)) rfl rfl) rfl fun r22 hr22=>Zz 2 ?_)
         cases r22
         ·replace hr22:=zdf hr22
          exact absurd (cb8 (by rwa [hr9]at hc)).1 hr22
         replace hr22:=zdt hr22
         refine s_ 13 [10,11,12,13,14] zk zs (Zz 6 ?_)
         refine j_ 15 rfl zk (aJ_ rfl rfl (n_ (dW_ x.b q.a) rfl m_ zt rfl fun _=>Zz 3 ?_))
         refine s_ 9 [16,17,18] zk zs (bK_ rfl rfl rfl (aH_ (p:=y) (q:=(C_ x.b q.a)) rfl rfl) rfl fun r23 hr23=>Zz 3 ?_)
         cases r23
         ·replace hr23:=zdf hr23
          exact absurd (cb8 (by rwa [hr9]at hc)).2.1 hr23
         replace hr23:=zdt hr23
         refine s_ 4 [19,20,21,22,23] zk zs (Zz 6 ?_)
         refine j_ 24 rfl zk (aJ_ rfl rfl (n_ (dW_ f.a q.c) rfl m_ zt rfl fun _=>Zz 3 ?_))
         refine s_ 0 [25,26,27] zk zs (bK_ rfl rfl rfl (aH_ (p:=f) (q:=(C_ f.a q.c)) rfl rfl) rfl fun r24 hr24=>Zz 6 ?_)
         exact al_ bT_ () (x_ rfl (by rw[← hr24];simpa using (cb8 (by rwa [hr9]at hc)).2.2)) m_ zt
        refine Zz 6 ?_
        refine s_ 25 [0,1,2,3,4,5,6] zk zs (Zz 8 ?_)
        refine j_ 7 rfl zk (n_ (fi_ f.a q.r x.b) rfl m_ zt rfl fun _=>Zz 3 ?_)
        refine s_ 22 [8,9] zk zs (cI_ rfl (aH_ (p:=x) (q:=(I_ f.a q.r x.b)) rfl rfl) rfl fun r25 hr25=>Zz 2 ?_)
        cases r25
        ·replace hr25:=zdf hr25
         exact absurd (cb7 (by rwa [hr8]at hc)).1 hr25
        replace hr25:=zdt hr25
        refine s_ 15 [10,11,12,13,14,15,16] zk zs (Zz 8 ?_)
        refine j_ 17 rfl zk (aJ_ rfl rfl (n_ (fi_ x.b q.s f.b) rfl m_ zt rfl fun _=>Zz 3 ?_))
        refine s_ 11 [18,19,20] zk zs (bK_ rfl rfl rfl (aH_ (p:=y) (q:=(I_ x.b q.s f.b)) rfl rfl) rfl fun r26 hr26=>Zz 3 ?_)
        cases r26
        ·replace hr26:=zdf hr26
         exact absurd (cb7 (by rwa [hr8]at hc)).2.1 hr26
        replace hr26:=zdt hr26
        refine s_ 4 [21,22,23,24,25,26,27] zk zs (Zz 8 ?_)
        refine j_ 28 rfl zk (aJ_ rfl rfl (n_ (fi_ f.a q.t f.b) rfl m_ zt rfl fun _=>Zz 3 ?_))
        refine s_ 0 [29,30,31] zk zs (bK_ rfl rfl rfl (aH_ (p:=f) (q:=(I_ f.a q.t f.b)) rfl rfl) rfl fun r27 hr27=>Zz 6 ?_)
        exact al_ bT_ () (x_ rfl (by rw[← hr27];simpa using (cb7 (by rwa [hr8]at hc)).2.2)) m_ zt
       omega
      omega
     refine Zz 6 ?_
     refine s_ 21 [0,1,2,3,4] zk zs (Zz 6 ?_)
     refine j_ 5 rfl zk (n_ (dW_ f.a q.a) rfl m_ zt rfl fun _=>Zz 3 ?_)
     refine s_ 18 [6,7] zk zs (cI_ rfl (aH_ (p:=x) (q:=(C_ f.a q.a)) rfl rfl) rfl fun r28 hr28=>Zz 2 ?_)
     cases r28
     ·replace hr28:=zdf hr28
      exact absurd (cb4 (by rwa [hr5]at hc)).1 hr28
     replace hr28:=zdt hr28
     refine s_ 13 [8,9,10,11,12] zk zs (Zz 6 ?_)
     refine j_ 13 rfl zk (aJ_ rfl rfl (n_ (dW_ f.a q.b) rfl m_ zt rfl fun _=>Zz 3 ?_))
     refine s_ 9 [14,15,16] zk zs (bK_ rfl rfl rfl (aH_ (p:=y) (q:=(C_ f.a q.b)) rfl rfl) rfl fun r29 hr29=>Zz 3 ?_)
     cases r29
     ·replace hr29:=zdf hr29
      exact absurd (cb4 (by rwa [hr5]at hc)).2.1 hr29
     replace hr29:=zdt hr29
     refine s_ 4 [17,18,19,20,21] zk zs (Zz 6 ?_)
     refine j_ 22 rfl zk (aJ_ rfl rfl (n_ (dW_ f.a q.c) rfl m_ zt rfl fun _=>Zz 3 ?_))
     refine s_ 0 [23,24,25] zk zs (bK_ rfl rfl rfl (aH_ (p:=f) (q:=(C_ f.a q.c)) rfl rfl) rfl fun r30 hr30=>Zz 6 ?_)
     exact al_ bT_ () (x_ rfl (by rw[← hr30];simpa using (cb4 (by rwa [hr5]at hc)).2.2)) m_ zt
    omega
   omega
  omega
 refine Zi 6 (fun hr31=>?_) fun hr31=>?_
 ·refine Zz 24 ?_
  refine i_ (cC_ rfl rfl) rfl (Zz 9 ?_)
  refine i_ (dg_ rfl rfl) rfl (Zi 12 (fun hr32=>?_) fun hr32=>?_)
  ·refine Zi 6 (fun hr33=>?_) fun hr33=>?_
   ·refine Zi 6 (fun hr34=>?_) fun hr34=>?_
    ·refine Zi 6 (fun hr35=>?_) fun hr35=>?_
     ·refine Zi 6 (fun hr36=>?_) fun hr36=>?_
      ·refine Zi 6 (fun hr37=>?_) fun hr37=>?_
       ·refine Zi 6 (fun hr38=>?_) fun hr38=>?_
        ·refine Zi 6 (fun hr39=>?_) fun hr39=>?_
         ·refine Zi 6 (fun hr40=>?_) fun hr40=>?_
          ·refine Zi 6 (fun hr41=>?_) fun hr41=>?_
           ·refine Zi 6 (fun hr42=>?_) fun hr42=>?_
            ·refine Zi 6 (fun hr43=>?_) fun hr43=>?_
             ·refine Zi 6 (fun hr44=>?_) fun hr44=>?_
              ·refine Zi 6 (fun hr45=>?_) fun hr45=>?_
               ·refine Zi 6 (fun hr46=>?_) fun hr46=>?_
                ·refine Zi 6 (fun hr47=>?_) fun hr47=>?_
                 ·refine Zz 12 ?_
                  exfalso;omega
                 omega
                omega
               omega
              exact absurd (qr_ (by rwa [hr44]at hc)).2.1 hr31
             exact absurd (qs_ (by rwa [hr43]at hc)).2.1 hr31
            omega
           omega
          exact absurd hr1 (cbk9 (by rwa [hr40]at hc))
         exact absurd hr1 (cbk8 (by rwa [hr39]at hc))
        exact absurd hr1 (cbk7 (by rwa [hr38]at hc))
       omega
      omega
     exact absurd hr1 (cbk4 (by rwa [hr35]at hc))
    omega
   omega
  omega
 refine Zi 11 (fun hr48=>?_) fun hr48=>?_
 ·refine Zz 17 ?_
  refine i_ (cC_ rfl rfl) rfl (Zz 9 ?_)
  refine i_ (dg_ rfl rfl) rfl (Zi 12 (fun hr49=>?_) fun hr49=>?_)
  ·refine Zi 6 (fun hr50=>?_) fun hr50=>?_
   ·refine Zi 6 (fun hr51=>?_) fun hr51=>?_
    ·refine Zi 6 (fun hr52=>?_) fun hr52=>?_
     ·refine Zi 6 (fun hr53=>?_) fun hr53=>?_
      ·refine Zi 6 (fun hr54=>?_) fun hr54=>?_
       ·refine Zi 6 (fun hr55=>?_) fun hr55=>?_
        ·refine Zi 6 (fun hr56=>?_) fun hr56=>?_
         ·refine Zi 6 (fun hr57=>?_) fun hr57=>?_
          ·refine Zi 6 (fun hr58=>?_) fun hr58=>?_
           ·refine Zi 6 (fun hr59=>?_) fun hr59=>?_
            ·refine Zi 6 (fun hr60=>?_) fun hr60=>?_
             ·refine Zi 6 (fun hr61=>?_) fun hr61=>?_
              ·refine Zi 6 (fun hr62=>?_) fun hr62=>?_
               ·refine Zi 6 (fun hr63=>?_) fun hr63=>?_
                ·refine Zi 6 (fun hr64=>?_) fun hr64=>?_
                 ·refine Zz 12 ?_
                  exfalso;omega
                 omega
                omega
               omega
              exact absurd (qr_ (by rwa [hr61]at hc)).2.2.1 hr48
             exact absurd (qs_ (by rwa [hr60]at hc)).2.2.1 hr48
            omega
           omega
          exact absurd hr1 (cbk9 (by rwa [hr57]at hc))
         exact absurd hr1 (cbk8 (by rwa [hr56]at hc))
        exact absurd hr1 (cbk7 (by rwa [hr55]at hc))
       omega
      omega
     exact absurd hr1 (cbk4 (by rwa [hr52]at hc))
    omega
   omega
  omega
 refine Zz 11 ?_
 refine aQ_ (fY_ rfl rfl) rfl fun r65 hr65=>Zz 10 ?_
 refine i_ (cC_ rfl rfl) rfl (Zz 9 ?_)
 refine i_ (dg_ rfl rfl) rfl (Zi 12 (fun hr66=>?_) fun hr66=>?_)
 ·refine Zi 6 (fun hr67=>?_) fun hr67=>?_
  ·refine Zi 6 (fun hr68=>?_) fun hr68=>?_
   ·refine Zi 6 (fun hr69=>?_) fun hr69=>?_
    ·refine Zi 6 (fun hr70=>?_) fun hr70=>?_
     ·refine Zi 6 (fun hr71=>?_) fun hr71=>?_
      ·refine Zi 6 (fun hr72=>?_) fun hr72=>?_
       ·refine Zi 6 (fun hr73=>?_) fun hr73=>?_
        ·refine Zi 6 (fun hr74=>?_) fun hr74=>?_
         ·refine Zi 6 (fun hr75=>?_) fun hr75=>?_
          ·refine Zi 6 (fun hr76=>?_) fun hr76=>?_
           ·refine Zi 6 (fun hr77=>?_) fun hr77=>?_
            ·refine Zi 6 (fun hr78=>?_) fun hr78=>?_
             ·refine Zi 6 (fun hr79=>?_) fun hr79=>?_
              ·refine Zi 6 (fun hr80=>?_) fun hr80=>?_
               ·refine Zi 6 (fun hr81=>?_) fun hr81=>?_
                ·refine Zz 12 ?_
                 exfalso;omega
                omega
               omega
              omega
             refine Zz 6 ?_
             refine s_ 12 [0,1] zk zs (Zz 3 ?_)
             cases r65
             ·replace hr65:=znb hr65
              exact absurd (qr_ (by rwa [hr78]at hc)).2.2.2.1 hr65
             replace hr65:=zeb hr65
             refine s_ 7 [2,3,4,5,6] zk zs (Zi 2 (fun hr82=>?_) fun hr82=>?_)
             ·exact absurd (qr_ (by rwa [hr78]at hc)).2.2.2.2.1 hr82
             refine Zz 3 ?_
             refine s_ 4 [7,8,9] zk zs (Zz 4 ?_)
             refine j_ 10 rfl zk (aJ_ rfl rfl (n_ (dW_ x.a [33]) rfl m_ zt rfl fun _=>Zz 3 ?_))
             refine s_ 0 [11,12,13] zk zs (bK_ rfl rfl rfl (aH_ (p:=f) (q:=(C_ x.a [33])) rfl rfl) rfl fun r83 hr83=>Zz 6 ?_)
             exact al_ bT_ () (x_ rfl (by rw[← hr83];simpa using (qr_ (by rwa [hr78]at hc)).2.2.2.2.2)) m_ zt
            refine Zz 6 ?_
            refine s_ 16 [0,1] zk zs (Zz 3 ?_)
            cases r65
            ·replace hr65:=znb hr65
             exact absurd (qs_ (by rwa [hr77]at hc)).2.2.2.1 hr65
            replace hr65:=zeb hr65
            refine s_ 11 [2,3,4,5,6] zk zs (Zi 2 (fun hr84=>?_) fun hr84=>?_)
            ·exact absurd (qs_ (by rwa [hr77]at hc)).2.2.2.2.1 hr84
            refine Zz 3 ?_
            refine s_ 4 [7,8,9,10,11,12,13] zk zs (Zz 8 ?_)
            refine j_ 14 rfl zk (aJ_ rfl rfl (n_ (pb_ x.a x.r (max x.lo y.lo) (min x.hi y.hi)) rfl m_ zt rfl fun _=>Zz 3 ?_))
            refine s_ 0 [15,16,17] zk zs (bK_ rfl rfl rfl (aH_ (p:=f) (q:=(T_ x.a x.r (max x.lo y.lo) (min x.hi y.hi))) rfl rfl) rfl fun r85 hr85=>Zz 6 ?_)
            exact al_ bT_ () (x_ rfl (by rw[← hr85];simpa using (qs_ (by rwa [hr77]at hc)).2.2.2.2.2)) m_ zt
           omega
          omega
         exact absurd hr1 (cbk9 (by rwa [hr74]at hc))
        exact absurd hr1 (cbk8 (by rwa [hr73]at hc))
       exact absurd hr1 (cbk7 (by rwa [hr72]at hc))
      omega
     omega
    exact absurd hr1 (cbk4 (by rwa [hr69]at hc))
   omega
  omega
 omega
end Go.Proofs.YtkeanlfhghlgiaaGreatDoor
namespace Go.Proofs.YtkeanlfhghlgiaaGreatDoor
open Go Go.Sx Go.Proofs
attribute [local irreducible] Code.wp wpList wpAnyH
open Go.Vs
theorem qa_ {p:List Pc} {x:Str} {i:Nat} (ha:x∈atS p) (hn:x ∉ List.take i (cn_ p)) (hi:List.length (cn_ p)≤i) (h:x≠[42]):x=[33]:=by
 rw[List.take_of_length_le hi]at hn
 rcases (fN_ p x).1 ha with q|q|q
 ·exact absurd (sB_ p▸q) hn
 ·exact absurd q h
 exact q
theorem hF_ (p:List Pc) (pad:Option Addr) (pcap:Nat) (x:Str) (hp:p.length≤1000000) (ha:x∈atS p):Tri Tryz.prog 81 #[.slice pad (List.length p) pcap,str x] [] [af_ pad (List.flatMap Pc.cells p)] (fun _:Unit=>.bool true) (fun _=>[]) (fun _=>[]):=by
 refine w_ Tryz.func81 rfl rfl Tryz.ntmps81 rfl fun v0=>?_
 refine Zz 8 ?_
 refine n_ (ri_ p pad pcap (by omega)) rfl m_ zf rfl fun⟨⟨aad1,acap1⟩,hca1,hcm1,hcz1⟩=>?_
 dsimp only
 dsimp only at hca1 hcm1 hcz1
 have hfl:=kT_ p
 refine Zz 10 ?_
 refine Q_ (ι:={y:Nat // y≤List.length (cn_ p)∧x ∉ List.take y (cn_ p)}) (fun y=>[(1,str x),(5,.slice aad1 (List.length (cn_ p)) acap1),(6,.int .i64 (y.1:Int))]) (fun y=>([])) (fun y=>[af_ aad1 (List.flatMap aV_ (cn_ p)),af_ pad (List.flatMap Pc.cells p)]) (fun y=>List.length (cn_ p) - y.1) ⟨(0:Nat),by simp,by simp⟩ zl m_ zh ?_
 rintro ⟨i,hi,hn⟩
 dsimp only at hi hn ⊢
 refine Zi 6 (fun hr1=>?_) fun hr1=>?_
 ·refine Zi 8 (fun hr2=>?_) fun hr2=>?_
  ·refine Zz 4 ?_
   refine aQ_ (fY_ rfl rfl) rfl fun r3 hr3=>Zz 5 ?_
   exact al_ Tryz.results81 () (x_ rfl (by rw[← hr3];symm;simpa using qa_ ha hn (by omega) hr2)) m_ zt
  refine Zz 8 ?_
  exact al_ Tryz.results81 () rfl m_ zt
 obtain⟨hlx1,x1,hx1,hmx1⟩:=zge (show i<List.length (cn_ p) by omega)
 refine Zi 14 (fun hr4=>?_) fun hr4=>?_
 ·refine Zz 11 ?_
  exact y_ ⟨i+1,hlx1,fun q=>by rw[List.take_add_one,hx1]at q;simp only[Option.toList_some,List.mem_append,List.mem_singleton]at q;rcases q with q|rfl;exact hn q;simp_all⟩ (by dsimp only;omega) zl m_ zh
 refine Zz 9 ?_
 exact al_ Tryz.results81 () rfl m_ zt
end Go.Proofs.YtkeanlfhghlgiaaGreatDoor
namespace Go.Proofs.YtkeanlfhghlgiaaGreatDoor
open Go Go.Sx Go.Proofs
attribute [local irreducible] Code.wp wpList wpAnyH
open Go.Vs
theorem kU_ (p:List Pc) {x:Str} (h:x∈atS p):x≠[]:=by
 rcases (fN_ p x).1 h with h|rfl|rfl
 ·have h:=(em_ p x).1 h
  obtain⟨z,_,h⟩:=List.mem_flatMap.1 h
  simpa using (List.mem_filter.1 h).2
 ·simp
 simp
theorem fok_wf {p:List Pc} {y:Fc} (hf:y.form) (h:fc_ (atS p) y=true):wfB y=true:=by
 rw[lY_]
 rcases hf with⟨a,b,rfl⟩|⟨a,r,b,rfl,_⟩|⟨a,r,lo,hi,rfl,_⟩
 ·have q:=fo1.1 h;exact⟨kU_ p q.1,.inl ⟨rfl,kU_ p q.2,rfl⟩⟩
 ·have q:=fo2.1 h;exact⟨kU_ p q.1,.inr (.inl ⟨rfl,kU_ p q.2.1,q.2.2,rfl⟩)⟩
 have q:=fo3.1 h;exact⟨kU_ p q.1,.inr (.inr ⟨rfl,q.2.1,rfl,q.2.2⟩)⟩
section
variable {p:List Pc} {f:Fc} {L:List Stp}
theorem rn_ {A:List Str} (hP:PrfL p A f L) {n:Nat} {s:Stp} (hs:L[n]? = some s) (hn:n+1<L.length):s.rule≤14:=by
 rcases hP.low s (List.mem_of_getElem? hs) with h|h
 ·exact h
 exfalso
 obtain⟨xl,hxl,hf⟩:=iw_ hP
 have a1:=fj_ hP.nd hs
 have a2:=fj_ hP.nd hxl
 unfold bd_ at a1 a2
 rw[h]at a1;rw[hf]at a2;omega
theorem ro_ {A:List Str} (hP:PrfL p A f L):∀ (n:Nat) s,L[n]? = some s→s.rule≤14→Der p A s.fact:=by
  intro n
  induction n using Nat.strongRecOn with
  | ind n ih =>
    intro s hs hr
    have h1:=(hP.cor n s hs).one hr
    have hnl:=(List.getElem?_eq_some_iff.1 hs).1
    refine Der.step (h1.mono (fun x hx=>⟨x,hx,x.frm,rfl⟩) (fun _ h=>h) (fun z hz=>?_) (fun _ _ h=>h))
    obtain⟨m,t,ht,rfl⟩:=gx_ hz
    have hm:=(List.getElem?_eq_some_iff.1 ht).1
    rw[List.length_take]at hm
    rw[List.getElem?_take_of_lt (by omega)]at ht
    exact ih m (by omega) t ht (rn_ hP ht (by omega))
theorem ti_ (hP:PrfL p (atS p) f L) (hv:∀ x∈p,x.valid=true) (hf:wfB f=true):∀ (n:Nat) s,L[n]? = some s→wfB s.fact=true:=fun n s hs=>by
 rcases hP.low s (List.mem_of_getElem? hs) with h|h
 ·have hd:=ro_ hP n s hs h
  exact fok_wf (hd.form fun z hz=>hz_ (hv z hz)) (der_ok hv hd)
 rw[h];exact hf
end
def Fc.z0:Fc:=⟨0,[],[],[],0,0⟩
def Pc.z0:Pc:=⟨0,[],[],[],[],[],[],0,0,0⟩
def CorV (p:List Pc) (l:List Stp) (r:Int) (f:Fc) (i:Int) (fr:List Int):Prop :=
  ∃ (k:Int) (z:Pc) (prem:List Fc),bz_ r=((fr.length:Int),k,true)∧(k=0→i=-1∧z=Pc.z0)∧(k≠0→∃ m:Nat,i=(m:Int)∧p[m]? = some z∧z.kind=k)∧(r=1∨r=2∨r=10→f.a∈atS p)∧prem.length=fr.length ∧
    (∀ (j:Nat) (q:Int),fr[j]? = some q→∃ x,prem[j]? = some x∧At l q.toNat x)∧bl_ r (prem.getD 0 Fc.z0) (prem.getD 1 Fc.z0) z f=true
theorem kg_ {l:List Stp} {m:Nat} {x:Fc} (h:At l m x):∀ (j:Nat) (q:Int),[(m:Int)][j]? = some q→∃ y,[x][j]? = some y∧At l q.toNat y:=fun j q hj=>by
  match j with
  | 0=>simp at hj;subst hj;exact⟨x,rfl,by simpa using h⟩
  | j+1=>simp at hj
theorem lx_ {l:List Stp} {m k:Nat} {x y:Fc} (h:At l m x) (h':At l k y):∀ (j:Nat) (q:Int),[(m:Int),(k:Int)][j]? = some q→∃ z,[x,y][j]? = some z∧At l q.toNat z:=fun j q hj=>by
  match j with
  | 0=>simp at hj;subst hj;exact⟨x,rfl,by simpa using h⟩
  | 1=>simp at hj;subst hj;exact⟨y,rfl,by simpa using h'⟩
  | j+2=>simp at hj
theorem rp_ {l:List Stp}:∀ (j:Nat) (q:Int),([]:List Int)[j]? = some q→∃ z,([]:List Fc)[j]? = some z∧At l q.toNat z:=fun j q hj=>by simp at hj
theorem tQ_ {p:List Pc} {l:List Stp} {r:Int} {f:Fc} {i:Int} {fr:List Int} (h:Cor p (atS p) l r f i fr):CorV p l r f i fr:=by
  cases h with
  | r1 h=>exact⟨0,Pc.z0,[],rfl,(fun _=>⟨rfl,rfl⟩),(fun q=>absurd rfl q),(fun _=>h),rfl,rp_,by simp[bl_,bu_,C_,I_,T_]⟩
  | r2 h=>exact⟨0,Pc.z0,[],rfl,(fun _=>⟨rfl,rfl⟩),(fun q=>absurd rfl q),(fun _=>h),rfl,rp_,by simp[bl_,bu_,C_,I_,T_]⟩
  | r10 hx hk h=>exact⟨7,_,[],rfl,(fun q=>absurd q (by decide)),(fun _=>⟨_,rfl,hx,hk⟩),(fun _=>h),rfl,rp_,by simp[bl_,bu_,C_,I_,T_]⟩
  | r3 hx hk h=>exact⟨1,_,[_],rfl,(fun q=>absurd q (by decide)),(fun _=>⟨_,rfl,hx,hk⟩),(fun q=>absurd q (by decide)),rfl,(kg_ h),by simp[bl_,bu_,C_,I_,T_]⟩
  | r5 hx hk h=>exact⟨3,_,[_],rfl,(fun q=>absurd q (by decide)),(fun _=>⟨_,rfl,hx,hk⟩),(fun q=>absurd q (by decide)),rfl,(kg_ h),by simp[bl_,bu_,C_,I_,T_]⟩
  | r6 hx hk h=>exact⟨5,_,[_],rfl,(fun q=>absurd q (by decide)),(fun _=>⟨_,rfl,hx,hk⟩),(fun q=>absurd q (by decide)),rfl,(kg_ h),by simp[bl_,bu_,C_,I_,T_]⟩
  | r11 hx hk h=>exact⟨8,_,[_],rfl,(fun q=>absurd q (by decide)),(fun _=>⟨_,rfl,hx,hk⟩),(fun q=>absurd q (by decide)),rfl,(kg_ h),by simp[bl_,bu_,C_,I_,T_]⟩
  | r4 hx hk h h'=>exact⟨2,_,[_,_],rfl,(fun q=>absurd q (by decide)),(fun _=>⟨_,rfl,hx,hk⟩),(fun q=>absurd q (by decide)),rfl,(lx_ h h'),by simp[bl_,bu_,C_,I_,T_]⟩
  | r7 hx hk h h'=>exact⟨6,_,[_,_],rfl,(fun q=>absurd q (by decide)),(fun _=>⟨_,rfl,hx,hk⟩),(fun q=>absurd q (by decide)),rfl,(lx_ h h'),by simp[bl_,bu_,C_,I_,T_]⟩
  | r8 hx hk h h'=>exact⟨4,_,[_,_],rfl,(fun q=>absurd q (by decide)),(fun _=>⟨_,rfl,hx,hk⟩),(fun q=>absurd q (by decide)),rfl,(lx_ h h'),by simp[bl_,bu_,C_,I_,T_]⟩
  | r9 h h'=>exact⟨0,Pc.z0,[_,_],rfl,(fun _=>⟨rfl,rfl⟩),(fun q=>absurd rfl q),(fun q=>absurd q (by decide)),rfl,(lx_ h h'),by simp[bl_,bu_,C_,I_,T_]⟩
  | r12 h h' hl=>exact⟨0,Pc.z0,[_,_],rfl,(fun _=>⟨rfl,rfl⟩),(fun q=>absurd rfl q),(fun q=>absurd q (by decide)),rfl,(lx_ h h'),by simp[bl_,bu_,C_,I_,T_,hl]⟩
  | r13 h h' hl=>exact⟨0,Pc.z0,[_,_],rfl,(fun _=>⟨rfl,rfl⟩),(fun q=>absurd rfl q),(fun q=>absurd q (by decide)),rfl,(lx_ h h'),by simp[bl_,bu_,C_,I_,T_,hl]⟩
  | r14 hx hk h h1 h2=>exact⟨9,_,[_],rfl,(fun q=>absurd q (by decide)),(fun _=>⟨_,rfl,hx,hk⟩),(fun q=>absurd q (by decide)),rfl,(kg_ h),by simp[bl_,bu_,C_,I_,T_,h1,h2]⟩
  | r15 h=>exact⟨0,Pc.z0,[_],rfl,(fun _=>⟨rfl,rfl⟩),(fun q=>absurd rfl q),(fun q=>absurd q (by decide)),rfl,(kg_ h),by simp[bl_,bu_,C_,I_,T_]⟩
  | r16 h h1 h2=>exact⟨0,Pc.z0,[_],rfl,(fun _=>⟨rfl,rfl⟩),(fun q=>absurd rfl q),(fun q=>absurd q (by decide)),rfl,(kg_ h),by simp[bl_,bu_,C_,I_,T_,h1,h2]⟩
end Go.Proofs.YtkeanlfhghlgiaaGreatDoor
namespace Go.Proofs.YtkeanlfhghlgiaaGreatDoor
open Go Go.Sx Go.Proofs
attribute [local irreducible] Code.wp wpList wpAnyH
open Go.Vs
theorem hp_ (r:Int) (prem:List Fc) (lad:Option Addr) (lcap:Nat) (q:Pc) (f:Fc) {k:Int} {n:Int} (hn:n=prem.length) (hm:bz_ r=(n,k,true)) (hc:bl_ r (prem.getD 0 Fc.z0) (prem.getD 1 Fc.z0) q f=true):Tri Tryz.prog 82 #[.int .i64 r,.slice lad (List.length prem) lcap,Pc.val q,Fc.val f] [] [af_ lad (List.flatMap Fc.cells prem)] (fun _:Unit=>.bool true) (fun _=>[]) (fun _=>[]):=by
 have hs:(prem.length=0∧(r=1∨r=2∨r=10))∨(prem.length=1∧(r=3∨r=5∨r=6∨r=11∨r=14∨r=15∨r=16))∨(prem.length=2∧(r=4∨r=7∨r=8∨r=9∨r=12∨r=13)):=by
   by_cases h1:r=1
   · subst h1;have e:=hm;simp[bz_]at e;omega
   by_cases h2:r=2
   · subst h2;have e:=hm;simp[bz_]at e;omega
   by_cases h3:r=3
   · subst h3;have e:=hm;simp[bz_]at e;omega
   by_cases h4:r=4
   · subst h4;have e:=hm;simp[bz_]at e;omega
   by_cases h5:r=5
   · subst h5;have e:=hm;simp[bz_]at e;omega
   by_cases h6:r=6
   · subst h6;have e:=hm;simp[bz_]at e;omega
   by_cases h7:r=7
   · subst h7;have e:=hm;simp[bz_]at e;omega
   by_cases h8:r=8
   · subst h8;have e:=hm;simp[bz_]at e;omega
   by_cases h9:r=9
   · subst h9;have e:=hm;simp[bz_]at e;omega
   by_cases h10:r=10
   · subst h10;have e:=hm;simp[bz_]at e;omega
   by_cases h11:r=11
   · subst h11;have e:=hm;simp[bz_]at e;omega
   by_cases h12:r=12
   · subst h12;have e:=hm;simp[bz_]at e;omega
   by_cases h13:r=13
   · subst h13;have e:=hm;simp[bz_]at e;omega
   by_cases h14:r=14
   · subst h14;have e:=hm;simp[bz_]at e;omega
   by_cases h15:r=15
   · subst h15;have e:=hm;simp[bz_]at e;omega
   by_cases h16:r=16
   · subst h16;have e:=hm;simp[bz_]at e;omega
   exfalso;simp[bz_,h1,h2,h3,h4,h5,h6,h7,h8,h9,h10,h11,h12,h13,h14,h15,h16]at hm
 rcases hs with⟨h1,h2⟩|⟨h1,h2⟩|⟨h1,h2⟩
 ·match prem,h1 with
  | [],_=>exact tT_ r lad lcap q f h2 hc
 ·match prem,h1 with
  | [x],_=>exact tS_ r x lad lcap q f h2 hc
 match prem,h1 with
 | [x,y],_=>exact tR_ r x y lad lcap q f h2 hc
theorem take_snoc {α:Type} {l:List α} {i:Nat} {x:α} (h:l[i]? = some x):List.take (i+1) l=List.take i l++[x]:=by rw[List.take_add_one,h];rfl
theorem tt_ {r n k:Int} (hm:bz_ r=(n,k,true)):n≤2:=by
 by_cases h1:r=1
 ·subst h1;have e:=hm;simp[bz_]at e;omega
 by_cases h2:r=2
 ·subst h2;have e:=hm;simp[bz_]at e;omega
 by_cases h3:r=3
 ·subst h3;have e:=hm;simp[bz_]at e;omega
 by_cases h4:r=4
 ·subst h4;have e:=hm;simp[bz_]at e;omega
 by_cases h5:r=5
 ·subst h5;have e:=hm;simp[bz_]at e;omega
 by_cases h6:r=6
 ·subst h6;have e:=hm;simp[bz_]at e;omega
 by_cases h7:r=7
 ·subst h7;have e:=hm;simp[bz_]at e;omega
 by_cases h8:r=8
 ·subst h8;have e:=hm;simp[bz_]at e;omega
 by_cases h9:r=9
 ·subst h9;have e:=hm;simp[bz_]at e;omega
 by_cases h10:r=10
 ·subst h10;have e:=hm;simp[bz_]at e;omega
 by_cases h11:r=11
 ·subst h11;have e:=hm;simp[bz_]at e;omega
 by_cases h12:r=12
 ·subst h12;have e:=hm;simp[bz_]at e;omega
 by_cases h13:r=13
 ·subst h13;have e:=hm;simp[bz_]at e;omega
 by_cases h14:r=14
 ·subst h14;have e:=hm;simp[bz_]at e;omega
 by_cases h15:r=15
 ·subst h15;have e:=hm;simp[bz_]at e;omega
 by_cases h16:r=16
 ·subst h16;have e:=hm;simp[bz_]at e;omega
 exfalso;simp[bz_,h1,h2,h3,h4,h5,h6,h7,h8,h9,h10,h11,h12,h13,h14,h15,h16]at hm
theorem tj_ {l:List Stp} {n i:Nat} {fr:List Int} {prem:List Fc} {x:Int} {t:Stp} (hpr:∀ (j:Nat) (q:Int),fr[j]? = some q→∃ x,prem[j]? = some x∧At (l.take n) q.toNat x) (hx:fr[i]? = some x) (hn:x.toNat<n) (ht:l[x.toNat]? = some t):prem[i]? = some t.fact:=by
  obtain⟨y,h1,u,h2,h3⟩:=hpr i x hx
  rw[List.getElem?_take_of_lt hn,ht]at h2
  cases h2;rw[h1,h3]
theorem qn_ (p:List Pc) (pad:Option Addr) (pcap:Nat) (l:List Stp) (ad:Option Addr) (cap:Nat) (n:Nat) (s:Stp) (hp:p.length≤1000000) (hs:l[n]? = some s) (hw:wfB s.fact=true) (hfr:∀ q∈s.frm,0≤q∧q<(n:Int)) (hc:CorV p (l.take n) s.rule s.fact s.piece s.frm):Tri Tryz.prog 38 #[.slice pad (List.length p) pcap,.agg #[.slice ad (List.length l) cap],.int .i64 (n:Int)] [] [af_ pad (List.flatMap Pc.cells p),af_ ad (List.flatMap Stp.cells l),ax_ l] (fun _:Unit=>.bool true) (fun _=>[]) (fun _=>[]):=by
 refine w_ Tryz.func38 rfl rfl Tryz.ntmps38 rfl fun v0=>?_
 obtain⟨k,z,prem,hm1,hz0,hz1,hkn,hpl,hpr,hcon⟩:=hc
 have hfB:ec_ s.fact=true:=by rw[sn_];exact hw
 have hf2:=tt_ hm1
 have hnl:n<List.length l:=(List.getElem?_eq_some_iff.1 hs).1
 have hms:s∈l:=List.mem_of_getElem? hs
 refine Zz 2 ?_
 refine as_ rfl rfl fun b1=>Zz 10 ?_
 refine J_ bn_ rfl fun b2=>z_ 0 ap_ rfl rfl rfl rfl rfl rfl (Zz 6 ?_)
 refine n_ (many_c s.rule) rfl m_ zt rfl fun⟨⟨m1,k1,o1⟩,hmy⟩=>?_
 dsimp only
 rw[hm1]at hmy
 simp only[Prod.mk.injEq]at hmy
 obtain⟨q1,q2,q3⟩:=hmy
 subst q1
 have q4:=q2.symm
 subst q4
 subst q3
 refine Zz 13 ?_
 refine i_ (bt_ rfl) rfl (Zz 6 ?_)
 refine br_ (sm_ s.fact) rfl m_ zt rfl fun r1 hr1=>aJ_ rfl rfl (i_ (bt_ rfl) rfl (Zz 2 ?_))
 cases r1
 ·exact absurd (hfB.symm.trans hr1) (by decide)
 refine Zi 9 (fun hr2=>?_) fun hr2=>?_
 ·refine Zz 8 ?_
  refine dT_ aj_ B_ rfl fun b3=>u_ d_ (Zz 4 ?_)
  refine u_ (q_ (e_ d_) (ak_ V_)) (Zz 6 ?_)
  have hw1:aE_ 24 6 (.slice (some ⟨b3,0,none⟩) 0 0) (List.length (List.take 0 prem)) (List.flatMap Fc.cells (List.take 0 prem)) [(b3,.cells #[] 24 (0,0))]:=by have q:=(gd_ b3 24 6);exact q
  refine Q_ (ι:={y:Nat×Value×Hp // y.1≤List.length s.frm∧zR 24 6 Fc.cells y.2.1 (List.take y.1 prem) y.2.2}) (fun y=>[(0,.slice pad (List.length p) pcap),(2,.int .i64 (n:Int)),(4,zp_ b1 0),(6,.bool false),(7,zp_ b2 0),(9,.int .i64 k),(11,y.1.2.1),(12,.int .i64 (y.1.1:Int))]) (fun y=>((b2,.cells #[.int .i64 s.rule,.int .i64 (Fc.kind s.fact),str (Fc.a s.fact),str (Fc.b s.fact),str (Fc.r s.fact),.int .i64 (Fc.lo s.fact),.int .i64 (Fc.hi s.fact),.int .i64 s.piece,.slice s.ad (List.length s.frm) s.cap] 48 (0,0))::((b1,.cells #[.slice ad (List.length l) cap] 29 (0,0))::y.1.2.2))) (fun y=>[af_ pad (List.flatMap Pc.cells p),af_ ad (List.flatMap Stp.cells l),ax_ l]) (fun y=>List.length s.frm - y.1.1) ⟨((0:Nat),(.slice (some ⟨b3,0,none⟩) 0 0),[(b3,.cells #[] 24 (0,0))]),by simp,hw1⟩ zl zp zh ?_
  rintro ⟨⟨i,sv_Rfc,H_Rfc⟩,hi_i,hr_Rfc⟩
  dsimp only at hi_i hr_Rfc ⊢
  refine Zi 7 (fun hr3=>?_) fun hr3=>?_
  ·rw[show List.take i prem=prem from List.take_of_length_le (by omega)]at hr_Rfc
   refine Zz 2 ?_
   refine bk_ hr_Rfc (c_ F_) fun rad rcap hrad hcrad hmrad hzrad=>?_
   subst hrad
   refine Zz 5 ?_
   refine i_ (H_ ob_ rfl rfl) rfl (J_ aN_ rfl fun b4=>z_ 0 Y_ rfl rfl rfl rfl rfl rfl (Zi 6 (fun hr4=>?_) fun hr4=>?_))
   ·refine Zi 14 (fun hr5=>?_) fun hr5=>?_
    ·omega
    obtain⟨mz,hzi,hzm,hzk⟩:=hz1 hr5
    have hzp:p[Int.toNat s.piece]? = some z:=by rw[hzi];simpa using hzm
    have hlz:=(List.getElem?_eq_some_iff.1 hzp).1
    refine Zi 8 (fun hr6=>?_) fun hr6=>?_
    ·refine Zi 10 (fun hr7=>?_) fun hr7=>?_
     ·refine Zi 17 (fun hr8=>?_) fun hr8=>?_
      ·refine Zz 12 ?_
       refine z_ 0 Y_ rfl rfl rfl rfl rfl rfl (Zi 7 (fun hr9=>?_) fun hr9=>?_)
       ·refine Zi 6 (fun hr10=>?_) fun hr10=>?_
        ·refine Zi 7 (fun hr11=>?_) fun hr11=>?_
         ·refine Zz 22 ?_
          refine n_ (hp_ s.rule prem rad rcap z s.fact (by omega) hm1 hcon) rfl m_ zf rfl fun _=>Zz 4 ?_
          exact al_ fz_ () rfl m_ zt
         refine Zz 11 ?_
         refine n_ (hF_ p pad pcap (Fc.a s.fact) (by omega) (hkn (by omega))) rfl m_ zf rfl fun _=>aJ_ rfl rfl (i_ (bt_ rfl) rfl (Zz 14 ?_))
         refine n_ (hp_ s.rule prem rad rcap z s.fact (by omega) hm1 hcon) rfl m_ zf rfl fun _=>Zz 4 ?_
         exact al_ fz_ () rfl m_ zt
        refine Zz 16 ?_
        refine n_ (hF_ p pad pcap (Fc.a s.fact) (by omega) (hkn (by omega))) rfl m_ zf rfl fun _=>aJ_ rfl rfl (i_ (bt_ rfl) rfl (Zz 14 ?_))
        refine n_ (hp_ s.rule prem rad rcap z s.fact (by omega) hm1 hcon) rfl m_ zf rfl fun _=>Zz 4 ?_
        exact al_ fz_ () rfl m_ zt
       refine Zz 20 ?_
       refine n_ (hF_ p pad pcap (Fc.a s.fact) (by omega) (hkn (by omega))) rfl m_ zf rfl fun _=>aJ_ rfl rfl (i_ (bt_ rfl) rfl (Zz 14 ?_))
       refine n_ (hp_ s.rule prem rad rcap z s.fact (by omega) hm1 hcon) rfl m_ zf rfl fun _=>Zz 4 ?_
       exact al_ fz_ () rfl m_ zt
      exact absurd hzk hr8
     exfalso;omega
    exfalso;omega
   refine Zi 6 (fun hr12=>?_) fun hr12=>?_
   ·refine Zi 10 (fun hr13=>?_) fun hr13=>?_
    ·obtain⟨_,hz9⟩:=hz0 hr13
     subst hz9
     refine Zi 10 (fun hr14=>?_) fun hr14=>?_
     ·refine Zi 6 (fun hr15=>?_) fun hr15=>?_
      ·refine Zi 7 (fun hr16=>?_) fun hr16=>?_
       ·refine Zz 22 ?_
        refine n_ (hp_ s.rule prem rad rcap Pc.z0 s.fact (by omega) hm1 hcon) rfl m_ zf rfl fun _=>Zz 4 ?_
        exact al_ fz_ () rfl m_ zt
       refine Zz 11 ?_
       refine n_ (hF_ p pad pcap (Fc.a s.fact) (by omega) (hkn (by omega))) rfl m_ zf rfl fun _=>aJ_ rfl rfl (i_ (bt_ rfl) rfl (Zz 14 ?_))
       refine n_ (hp_ s.rule prem rad rcap Pc.z0 s.fact (by omega) hm1 hcon) rfl m_ zf rfl fun _=>Zz 4 ?_
       exact al_ fz_ () rfl m_ zt
      refine Zz 16 ?_
      refine n_ (hF_ p pad pcap (Fc.a s.fact) (by omega) (hkn (by omega))) rfl m_ zf rfl fun _=>aJ_ rfl rfl (i_ (bt_ rfl) rfl (Zz 14 ?_))
      refine n_ (hp_ s.rule prem rad rcap Pc.z0 s.fact (by omega) hm1 hcon) rfl m_ zf rfl fun _=>Zz 4 ?_
      exact al_ fz_ () rfl m_ zt
     refine Zz 20 ?_
     refine n_ (hF_ p pad pcap (Fc.a s.fact) (by omega) (hkn (by omega))) rfl m_ zf rfl fun _=>aJ_ rfl rfl (i_ (bt_ rfl) rfl (Zz 14 ?_))
     refine n_ (hp_ s.rule prem rad rcap Pc.z0 s.fact (by omega) hm1 hcon) rfl m_ zf rfl fun _=>Zz 4 ?_
     exact al_ fz_ () rfl m_ zt
    omega
   exact absurd (hz0 hr4).1 hr12
  obtain⟨hlx1,x1,hx1,hmx1⟩:=zge (show i<List.length s.frm by omega)
  have hx1b:=hfr x1 hmx1
  have hlt1:(Int.toNat x1)<List.length l:=by omega
  obtain⟨t1,ht1⟩:∃ e0,l[(Int.toNat x1)]? = some e0:=⟨_,List.getElem?_eq_getElem hlt1⟩
  have hmt1:t1∈l:=List.mem_of_getElem? ht1
  have hpm1:prem[i]? = some t1.fact:=tj_ hpr hx1 (by omega) ht1
  refine Zz 13 ?_
  refine i_ (X_ f_ o_ rfl rfl (fun v _ h=>G_ (n:=1) D_ (by decide) (by exact (h.2.2.1 s hms)) hx1) (by omega) (by first|omega|(simp;done))) rfl ?_
  refine i_ (at_ (ad:=s.ad) O_ rfl (fun v _ h=>by exact (h.2.2.1 s hms)) (t_ D_ hx1 0 _ rfl)) rfl ?_
  refine Zi 0 (fun hr17=>?_) fun hr17=>?_
  ·refine Zz 8 ?_
   refine i_ (X_ f_ o_ rfl rfl (fun v _ h=>G_ (n:=1) D_ (by decide) (by exact (h.2.2.1 s hms)) hx1) (by omega) (by first|omega|(simp;done))) rfl ?_
   refine aJ_ rfl rfl (i_ (at_ (ad:=s.ad) O_ rfl (fun v _ h=>by exact (h.2.2.1 s hms)) (t_ D_ hx1 0 _ rfl)) rfl (Zi 3 (fun hr18=>?_) fun hr18=>?_))
   ·refine Zz 6 ?_
    refine ae_ ((b2,.cells #[.int .i64 s.rule,.int .i64 (Fc.kind s.fact),str (Fc.a s.fact),str (Fc.b s.fact),str (Fc.r s.fact),.int .i64 (Fc.lo s.fact),.int .i64 (Fc.hi s.fact),.int .i64 s.piece,.slice s.ad (List.length s.frm) s.cap] 48 (0,0))::((b1,.cells #[.slice ad (List.length l) cap] 29 (0,0))::[])) zk ?_
    refine s_ 3 [0,1,2,3,4,5,6,7,8,9,10] zk zs (Zz 6 ?_)
    refine R_ rfl (X_ f_ o_ rfl rfl (fun v _ h=>G_ (n:=1) D_ (by decide) (by exact (h.2.2.1 s hms)) hx1) (by omega) (by first|omega|(simp;done))) rfl ?_
    refine R_ rfl (at_ (ad:=s.ad) O_ rfl (fun v _ h=>by exact (h.2.2.1 s hms)) (t_ D_ hx1 0 _ rfl)) rfl (Zz 2 ?_)
    refine R_ rfl (bi_ (ad:=ad) (us:=Fc.cells t1.fact) aX_ B_ rfl zf rfl (ep_ 1 (t_ Stp.cells_len ht1) t1.fact_cells)) rfl (cJ_ (j_ 11 rfl zk (S_ aj_ B_ aa_ rfl rfl rfl rfl rfl rfl fun b5=>?_)))
    refine aB_ (List.flatMap Fc.cells [t1.fact]) d_ rfl ?_
    refine Zz 3 ?_
    refine j_ 12 rfl zk (bs_ (news:=List.flatMap Fc.cells [t1.fact]) mA_ hr_Rfc rfl rfl (fun q=>by cases q) (by simp) zp (by rw[bV_ Fc.cells 6 Fc.cells_len];rfl) zf (fun u hu=>ar_ Fc.cells_one hu) (by simp only[maxLen];((try simp only[List.length_append,List.length_cons,List.length_nil,List.length_take]);omega)) (by ((try simp only[List.length_append,List.length_cons,List.length_nil,List.length_take]);omega)) rfl fun sv2 Hr2 hr2=>?_)
    refine u_ List.perm_append_comm ?_
    have hq2:=zsa hr2
    refine Zz 3 ?_
    refine s_ 0 [13] zk zs (Zz 10 ?_)
    exact y_ ⟨(i+1,sv2,Hr2),hlx1,(by have q:=hq2;rw[take_snoc hpm1];exact q)⟩ (by dsimp only;omega) zl (g_ d_ (g_ d_ ay_)) (fun _ _ h=>h.2)
   exfalso;omega
  exfalso;omega
 exact absurd rfl hr2
end Go.Proofs.YtkeanlfhghlgiaaGreatDoor
namespace Go.Proofs.YtkeanlfhghlgiaaGreatDoor
open Go Go.Sx Go.Proofs
attribute [local irreducible] Code.wp wpList wpAnyH
open Go.Vs
structure PrvH (p:List Pc) (f:Fc) (l:List Stp):Prop where
  ne:1≤l.length
  le:l.length≤65536
  last:∃ s,l[l.length - 1]? = some s∧s.fact=f
  cor:∀ (n:Nat) s,l[n]? = some s→wfB s.fact=true∧(∀ q∈s.frm,0≤q∧q<(n:Int))∧CorV p (l.take n) s.rule s.fact s.piece s.frm
theorem prv_of {p:List Pc} {f:Fc} {L:List Stp} (hP:PrfL p (atS p) f L) (hv:∀ x∈p,x.valid=true) (hf:wfB f=true) (hl:L.length≤65536):PrvH p f L:=by
  refine⟨List.length_pos_iff.2 (oQ_ hP),hl,iw_ hP,fun n s hs=>⟨ti_ hP hv hf n s hs,ke_ hP n s hs,tQ_ (hP.cor n s hs)⟩⟩
theorem nb_ (p:List Pc) (pad:Option Addr) (pcap:Nat) (f:Fc) (l:List Stp) (ad:Option Addr) (cap:Nat) (hp:p.length≤1000000) (hP:PrvH p f l):Tri Tryz.prog 14 #[.slice pad (List.length p) pcap,Fc.val f,.agg #[.slice ad (List.length l) cap]] [] [af_ pad (List.flatMap Pc.cells p),af_ ad (List.flatMap Stp.cells l),ax_ l] (fun _:Unit=>.bool true) (fun _=>[]) (fun _=>[]):=by
 refine w_ Tryz.func14 rfl rfl Tryz.ntmps14 rfl fun v0=>?_
 have hl1:=hP.ne
 have hl2:=hP.le
 obtain⟨sl,hsl,hslf⟩:=hP.last
 have hslx:l[(Int.toNat ((List.length l:Int) - 1))]? = some sl:=by rw[show (Int.toNat ((List.length l:Int) - 1))=List.length l - 1 by omega];exact hsl
 have hlslx:(Int.toNat ((List.length l:Int) - 1))<List.length l:=by omega
 refine Zz 2 ?_
 refine as_ rfl rfl fun b1=>as_ rfl rfl fun b2=>Zz 6 ?_
 refine s_ 18 [0,1,2,3,4] zk zs (Zi 3 (fun hr1=>?_) fun hr1=>?_)
 ·refine Zz 2 ?_
  refine s_ 12 [5,6,7,8,9,10] zk zs (Zi 3 (fun hr2=>?_) fun hr2=>?_)
  ·refine Zz 3 ?_
   refine s_ 0 [11,12,13,14,15,16,17,18,19,20,21,22] zk zs (Zz 8 ?_)
   refine fH_ rfl rfl rfl (bi_ (ad:=ad) (us:=Fc.cells sl.fact) aX_ B_ rfl zf rfl (ep_ 1 (t_ Stp.cells_len hslx) sl.fact_cells)) rfl (Zz 1 ?_)
   refine bK_ rfl rfl rfl (dw_ (p:=sl.fact) (q:=f) rfl rfl) rfl fun r3 hr3=>Zz 4 ?_
   cases r3
   ·replace hr3:=zdf hr3
    refine Zz 10 ?_
    refine Q_ (ι:={y:Nat // y≤List.length l}) (fun y=>[(0,.slice pad (List.length p) pcap),(5,zp_ b2 0),(6,.bool false),(7,.int .i64 (y.1:Int))]) (fun y=>((b2,.cells #[.slice ad (List.length l) cap] 29 (0,0))::[])) (fun y=>[af_ pad (List.flatMap Pc.cells p),af_ ad (List.flatMap Stp.cells l),ax_ l]) (fun y=>List.length l - y.1) ⟨(0:Nat),by simp⟩ zl d_ zh ?_
    rintro ⟨i,hi_i⟩
    dsimp only at hi_i ⊢
    refine Zi 7 (fun hr4=>?_) fun hr4=>?_
    ·refine Zz 11 ?_
     exact al_ Tryz.results14 () rfl m_ zt
    obtain⟨hlx1,x1,hx1,hmx1⟩:=zge (show i<List.length l by omega)
    refine Zz 12 ?_
    refine n_ (qn_ p pad pcap l ad cap i x1 hp hx1 (hP.cor i x1 hx1).1 (hP.cor i x1 hx1).2.1 (hP.cor i x1 hx1).2.2) rfl m_ zf rfl fun _=>i_ (bt_ rfl) rfl (Zz 11 ?_)
    exact y_ ⟨i+1,hlx1⟩ (by dsimp only;omega) zl d_ zh
   replace hr3:=zdt hr3
   exact absurd hslf hr3
  exfalso;omega
 exfalso;omega
end Go.Proofs.YtkeanlfhghlgiaaGreatDoor
namespace Go.Proofs.YtkeanlfhghlgiaaGreatDoor
open Go Go.Sx Go.Proofs
attribute [local irreducible] Code.wp wpList wpAnyH
open Go.Vs
theorem kt_ (a b:Str):Fn0 Tryz.prog 16 #[str a,str b] (Fc.val (C_ a b)):=by
  refine w_ Tryz.func16 rfl rfl Tryz.ntmps16 rfl fun v0=>?_
  refine Zz 2 ?_
  refine J_ aa_ rfl fun b1=>Zz 6 ?_
  refine i_ (H_ dH_ rfl rfl) rfl (z_ 0 B_ rfl rfl rfl rfl rfl rfl (Zz 3 ?_))
  exact fy_ () (fun aa v h1 h2=>dk_ (us:=Fc.cells (C_ a b)) 0 Tryz.results16 aX_ B_ rfl rfl rfl aa v h1 h2) m_ zt
theorem ht_ {α:Type} {l:List α} {i:Nat} {x:α} {P:α→Prop} (h:∀ z∈List.take i l,P z) (hx:l[i]? = some x) (hp:P x):∀ z∈List.take (i+1) l,P z:=fun z hz=>by
 rw[take_snoc hx]at hz
 rcases List.mem_append.1 hz with hz|hz
 ·exact h z hz
 rw[List.mem_singleton]at hz;subst hz;exact hp
theorem tH_ (p:List Pc) (pad:Option Addr) (pcap:Nat) (N:Int) (hp:p.length≤1099511627744) (hbig:∀ x∈p,x.big):Tri Tryz.prog 11 #[.slice pad (List.length p) pcap,.int .i64 N] [] [af_ pad (List.flatMap Pc.cells p)] (fun b:{b:Bool // b=true→(p.length:Int)≤N∧∀ x∈p,x.sm}=>.bool b.1) (fun _=>[]) (fun _=>[]):=by
 refine w_ Tryz.func11 rfl rfl Tryz.ntmps11 rfl fun v0=>?_
 refine Zi 11 (fun hr1=>?_) fun hr1=>?_
 ·refine Zz 12 ?_
  refine Q_ (ι:={y:Nat // y≤List.length p∧∀ z∈List.take y p,z.sm}) (fun y=>[(0,.slice pad (List.length p) pcap),(4,.bool false),(5,.int .i64 (y.1:Int))]) (fun y=>([])) (fun y=>[af_ pad (List.flatMap Pc.cells p)]) (fun y=>List.length p - y.1) ⟨(0:Nat),by simp,by simp⟩ zl m_ zh ?_
  rintro ⟨i,hi_i,hall⟩
  dsimp only at hi_i hall ⊢
  refine Zi 6 (fun hr2=>?_) fun hr2=>?_
  ·refine Zz 11 ?_
   exact al_ Tryz.results11 ⟨true,fun _=>⟨by omega,by rwa [List.take_of_length_le (by omega)]at hall⟩⟩ rfl m_ zt
  obtain⟨hlx1,x1,hx1,hmx1⟩:=zge (show i<List.length p by omega)
  obtain⟨q1,q2,q3,q4,q5,q6⟩:=hbig x1 hmx1
  refine Zz 9 ?_
  refine s_ 0 [0,1,2,3,4,5,6,7,8,9,10,11,12,13,14,15,16,17,18,19,20,21,22,23,24,25,26,27,28,29,30,31,32,33,34,35,36,37,38,39,40,41] zk zs (Zz 5 ?_)
  refine R_ rfl (cW_ ag_ rfl) rfl (Zz 5 ?_)
  refine R_ rfl (cW_ ag_ rfl) rfl (Zz 6 ?_)
  refine R_ rfl (cW_ ag_ rfl) rfl (Zz 6 ?_)
  refine R_ rfl (cW_ ag_ rfl) rfl (Zz 6 ?_)
  refine R_ rfl (cW_ ag_ rfl) rfl (Zz 6 ?_)
  refine R_ rfl (cW_ ag_ rfl) rfl (Zi 1 (fun hr3=>?_) fun hr3=>?_)
  ·refine Zz 12 ?_
   exact y_ ⟨i+1,hlx1,ht_ hall hx1 ⟨by omega,by omega,by omega,by omega,by omega,by omega⟩⟩ (by dsimp only;omega) zl m_ zh
  refine Zz 10 ?_
  exact al_ Tryz.results11 ⟨false,fun h=>by cases h⟩ rfl m_ zt
 refine Zz 9 ?_
 exact al_ Tryz.results11 ⟨false,fun h=>by cases h⟩ rfl m_ zt
end Go.Proofs.YtkeanlfhghlgiaaGreatDoor
namespace Go.Proofs.YtkeanlfhghlgiaaGreatDoor
open Go Go.Sx Go.Proofs
attribute [local irreducible] Code.wp wpList wpAnyH
open Go.Vs
theorem ud_:atS []=[[33],[42]]:=fw_ jA_ List.lt_trans (sC_ []) (by decide) fun x=>by
  rw[fN_,em_]
  simp[ct_,or_comm]
def P2:List Pc:=[⟨1,[65],[],[66],[],[],[],0,0,0⟩,⟨1,[66],[],[67],[],[],[],0,0,0⟩]
def A2:List Str:=[[33],[42],[65],[66],[67]]
theorem atS_P2:atS P2=A2:=fw_ jA_ List.lt_trans (sC_ P2) (by decide) fun x=>by
 rw[fN_,em_]
 simp only[ct_,ih_,P2,A2,List.flatMap_cons,List.flatMap_nil,List.mem_append,List.mem_cons,List.not_mem_nil,or_false]
 simp
 constructor
 ·intro h
  simp only[or_assoc]at h
  rcases h with rfl|rfl|rfl|rfl|rfl|rfl<;>simp
 rintro (rfl|rfl|rfl|rfl|rfl)<;>simp
theorem sM_:cV_ P2=0:=by decide +kernel
theorem oV_:cV_ []=0:=by decide +kernel
def F0:List Fc:=kR_ [] [[33],[42]] 3
def F2:List Fc:=kR_ P2 A2 4
theorem ur_:fP_ [] (atS []) 65536 (some F0):=by rw[ud_];exact nN_ (fun x hx=>by simp at hx) 3 65536 (by decide +kernel) (by decide +kernel)
theorem F2_is:fP_ P2 (atS P2) 65536 (some F2):=by rw[atS_P2];exact nN_ (lU_ sM_) 4 65536 (by decide +kernel) (by decide +kernel)
theorem pg_ {p:List Pc} {f:Fc} {Y:List Stp} {e:Int} {F:List Fc} (h:fO_ p f 1073741824 Y e) (hc:cV_ p=0) (hF:fP_ p (atS p) 65536 (some F)) (hw:wfB f=true) (hd:oC_ F f=true):e=0∧PrvH p f Y:=by
  unfold fO_ at h
  rw[if_neg (by simp[hw])]at h
  obtain⟨c,e0,hA,h⟩:=h
  obtain⟨h0,h1,_⟩:=(pu_ hA hc (by decide) (by decide) (r:=some F) (by exact hF)).1 _ rfl
  rw[if_pos h0,h1,if_neg (by simp[hd])]at h
  obtain⟨he,L,hP,hl,hT⟩:=h
  exact⟨he,prv_of (nZ_ hP hT) (jo_ hc) hw (by have:=(jW_ hP hT).le;omega)⟩
theorem tE_ {p:List Pc} {f:Fc} {Y:List Stp} {e:Int} {F:List Fc} (h:fO_ p f 1073741824 Y e) (hc:cV_ p=0) (hF:fP_ p (atS p) 65536 (some F)) (hw:wfB f=true) (hd:oC_ F f=false):e=110:=by
  unfold fO_ at h
  rw[if_neg (by simp[hw])]at h
  obtain⟨c,e0,hA,h⟩:=h
  obtain⟨h0,h1,_⟩:=(pu_ hA hc (by decide) (by decide) (r:=some F) (by exact hF)).1 _ rfl
  rw[if_pos h0,h1,if_pos hd]at h
  exact h.1
theorem sn1 {Y:List Stp} {e:Int} (h:fO_ P2 (C_ [65] [67]) 1073741824 Y e):e=0∧PrvH P2 (C_ [65] [67]) Y:=pg_ h sM_ F2_is (by decide +kernel) (by decide +kernel)
theorem sn2 {Y:List Stp} {e:Int} (h:fO_ [] (C_ [42] [42]) 1073741824 Y e):e=0∧PrvH [] (C_ [42] [42]) Y:=pg_ h oV_ ur_ (by decide +kernel) (by decide +kernel)
theorem sn3 {Y:List Stp} {e:Int} (h:fO_ [] (C_ [65] [42]) 1073741824 Y e):e=110:=tE_ h oV_ ur_ (by decide +kernel) (by decide +kernel)
theorem sn4 {Y:List Stp} {e bu:Int} (h:fO_ [] ⟨0,[],[],[],0,0⟩ bu Y e):e=1:=by unfold fO_ at h;rw[if_pos (by decide +kernel)]at h;exact h.1
set_option maxHeartbeats 1000000 in
theorem qT_:Tri Tryz.prog 10 #[] [] [jt_] (fun _:Unit=>.bool true) (fun _=>[]) (fun _=>[]):=by
  refine w_ Tryz.func10 rfl rfl Tryz.ntmps10 rfl fun v0=>?_
  refine Zz 7 ?_
  refine i_ (H_ ob_ rfl rfl) rfl (i_ (H_ ob_ rfl rfl) rfl (S_ ad_ Y_ aN_ rfl rfl rfl rfl rfl rfl fun b1=>?_))
  refine aB_ (List.flatMap Pc.cells [(Pc.mk 1 [65] [] [66] [] [] [] 0 0 0),(Pc.mk 1 [66] [] [67] [] [] [] 0 0 0)]) d_ rfl ?_
  refine Zz 6 ?_
  refine n_ (kt_ [65] [67]) rfl m_ zt rfl fun _=>n_ (mw_ [(Pc.mk 1 [65] [] [66] [] [] [] 0 0 0),(Pc.mk 1 [66] [] [67] [] [] [] 0 0 0)] (some ⟨b1,0,none⟩) 2 (C_ [65] [67]) 1073741824 (Pc.sm_all (by decide +kernel)) (by decide)) rfl m_ zf rfl fun⟨⟨Y1,ya1,yc1,e1⟩,hF1,hYl1,hYc1,hYm1,hYz1⟩=>?_
  dsimp only
  dsimp only at hF1
  obtain⟨rfl,hP1⟩:=sn1 hF1
  refine Zz 3 ?_
  refine J_ cp_ rfl fun b2=>z_ 0 aT_ rfl rfl rfl rfl rfl rfl (Zz 5 ?_)
  refine n_ (kt_ [42] [42]) rfl m_ zt rfl fun _=>n_ (mw_ ([]:List Pc) none 0 (C_ [42] [42]) 1073741824 (Pc.sm_all (by decide +kernel)) (by decide)) rfl m_ (fun v _ h=>by exact⟨.inl rfl,h.2.2.2.1,trivial⟩) rfl fun⟨⟨Y2,ya2,yc2,e2⟩,hF2,hYl2,hYc2,hYm2,hYz2⟩=>?_
  dsimp only
  dsimp only at hF2
  obtain⟨rfl,hP2⟩:=sn2 hF2
  refine Zz 3 ?_
  refine J_ cp_ rfl fun b3=>z_ 0 aT_ rfl rfl rfl rfl rfl rfl (Zz 5 ?_)
  refine n_ (kt_ [65] [42]) rfl m_ zt rfl fun _=>n_ (mw_ ([]:List Pc) none 0 (C_ [65] [42]) 1073741824 (Pc.sm_all (by decide +kernel)) (by decide)) rfl m_ (fun v _ h=>by exact⟨.inl rfl,h.2.2.2.2.2.1,trivial⟩) rfl fun⟨⟨Y3,ya3,yc3,e3⟩,hF3,hYl3,hYc3,hYm3,hYz3⟩=>?_
  dsimp only
  dsimp only at hF3
  obtain rfl:=sn3 hF3
  refine Zz 3 ?_
  refine J_ cp_ rfl fun b4=>z_ 0 aT_ rfl rfl rfl rfl rfl rfl (Zz 5 ?_)
  refine i_ (H_ dH_ rfl rfl) rfl (n_ (mw_ ([]:List Pc) none 0 (Fc.mk 0 [] [] [] 0 0) 0 (Pc.sm_all (by decide +kernel)) (by decide)) rfl m_ (fun v _ h=>by exact⟨.inl rfl,h.2.2.2.2.2.2.2.1,trivial⟩) rfl fun⟨⟨Y4,ya4,yc4,e4⟩,hF4,hYl4,hYc4,hYm4,hYz4⟩=>?_)
  dsimp only
  dsimp only at hF4
  obtain rfl:=sn4 hF4
  refine Zz 3 ?_
  refine J_ cp_ rfl fun b5=>z_ 0 aT_ rfl rfl rfl rfl rfl rfl (Zz 5 ?_)
  refine i_ (H_ gZ_ rfl rfl) rfl (n_ (nY_ [] none 0 (by decide) (fun s hs=>by simp at hs)) rfl m_ (fun v _ h=>by exact⟨.inl rfl,dO_,trivial⟩) rfl fun⟨⟨Y,yad,ycap,yE⟩,hT1,hT2⟩=>?_)
  dsimp only
  dsimp only at hT2
  obtain⟨rfl,rfl,rfl,rfl⟩:=hT2 (fun q=>q.1 rfl)
  refine Zz 3 ?_
  refine J_ cp_ rfl fun b6=>z_ 0 aT_ rfl rfl rfl rfl rfl rfl (Zz 5 ?_)
  refine s_ 21 [0,1,2,3,4,5,6,7,9] zk zs (Zz 1 ?_)
  refine R_ rfl (aY_ (dA_ rfl rfl) (show _=Value.bool true from congrArg Value.bool (by decide))) rfl (Zz 2 ?_)
  refine fH_ rfl rfl rfl (aY_ (dA_ rfl rfl) (show _=Value.bool true from congrArg Value.bool (by decide))) rfl (Zz 5 ?_)
  refine j_ 8 rfl zk (aJ_ rfl rfl (n_ (kt_ [65] [67]) rfl m_ zt rfl fun _=>Zz 3 ?_))
  refine j_ 10 rfl zk (aJ_ rfl rfl (n_ (nb_ [(Pc.mk 1 [65] [] [66] [] [] [] 0 0 0),(Pc.mk 1 [66] [] [67] [] [] [] 0 0 0)] (some ⟨b1,0,none⟩) 2 (C_ [65] [67]) Y1 ya1 yc1 (by decide) hP1) rfl m_ zf rfl fun _=>Zz 3 ?_))
  refine s_ 16 [11,12,14] zk zs (Zz 4 ?_)
  refine j_ 13 rfl zk (aJ_ rfl rfl (n_ (kt_ [42] [42]) rfl m_ zt rfl fun _=>Zz 3 ?_))
  refine j_ 15 rfl zk (aJ_ rfl rfl (n_ (nb_ ([]:List Pc) none 0 (C_ [42] [42]) Y2 ya2 yc2 (by decide) hP2) rfl m_ (fun v _ h=>by exact⟨.inl rfl,h.2.2.2.2.2.2.1,h.2.2.2.2.2.2.2.1,trivial⟩) rfl fun _=>Zz 3 ?_))
  refine s_ 0 [16,17,18,19,20,21,22,23,24,25,26,27,28,29] zk zs (Zz 3 ?_)
  refine fH_ rfl rfl rfl (aY_ (dA_ rfl rfl) (show _=Value.bool true from congrArg Value.bool (by decide))) rfl (Zz 3 ?_)
  refine fH_ rfl rfl rfl (aY_ (dA_ rfl rfl) (show _=Value.bool true from congrArg Value.bool (by decide))) rfl (Zz 3 ?_)
  refine fH_ rfl rfl rfl (aY_ (dA_ rfl rfl) (show _=Value.bool true from congrArg Value.bool (by decide))) rfl (Zz 6 ?_)
  exact al_ Tryz.results10 () rfl m_ zt
end Go.Proofs.YtkeanlfhghlgiaaGreatDoor
namespace Go.Proofs
open Go.Shelf
def Tryz.lays189_ren:Go.Shelf.Ren:=⟨fun|189=>51|125=>102|257=>106|128=>134|129=>135|294=>138|295=>139|296=>140|297=>141|298=>142|299=>143|216=>144|300=>145|301=>146|328=>172|329=>167|330=>168|331=>173|332=>174|215=>136|343=>188|n=>n,fun|28=>46|3=>3|46=>131|0=>0|51=>158|53=>160|4=>4|183=>152|182=>151|131=>115|5=>5|9=>9|218=>179|222=>183|228=>195|229=>196|n=>n,fun|n=>n⟩
theorem Tryz.lays189:Go.Proofs.Lays.n189 Tryz.prog Tryz.lays189_ren:={
  mixed:=by kernel_rfl
  f125:=Tryz.func102.trans (congrArg some (by kernel_rfl))
  f128:=Tryz.func134.trans (congrArg some (by kernel_rfl))
  f129:=Tryz.func135.trans (congrArg some (by kernel_rfl))
  f189:=Tryz.func51.trans (congrArg some (by kernel_rfl))
  f215:=Tryz.func136.trans (congrArg some (by kernel_rfl))
  f216:=Tryz.func144.trans (congrArg some (by kernel_rfl))
  f257:=Tryz.func106.trans (congrArg some (by kernel_rfl))
  f294:=Tryz.func138.trans (congrArg some (by kernel_rfl))
  f295:=Tryz.func139.trans (congrArg some (by kernel_rfl))
  f296:=Tryz.func140.trans (congrArg some (by kernel_rfl))
  f297:=Tryz.func141.trans (congrArg some (by kernel_rfl))
  f298:=Tryz.func142.trans (congrArg some (by kernel_rfl))
  f299:=Tryz.func143.trans (congrArg some (by kernel_rfl))
  f300:=Tryz.func145.trans (congrArg some (by kernel_rfl))
  f301:=Tryz.func146.trans (congrArg some (by kernel_rfl))
  f328:=Tryz.func172.trans (congrArg some (by kernel_rfl))
  f329:=Tryz.func167.trans (congrArg some (by kernel_rfl))
  f330:=Tryz.func168.trans (congrArg some (by kernel_rfl))
  f331:=Tryz.func173.trans (congrArg some (by kernel_rfl))
  f332:=Tryz.func174.trans (congrArg some (by kernel_rfl))
  f343:=Tryz.func188.trans (congrArg some (by kernel_rfl))
  t0:=Tryz.underlying0
  a0:=Tryz.isAgg0
  z0:=Tryz.sizeOf0
  v0:=Tryz.zeroValue0
  t3:=Tryz.underlying3
  a3:=Tryz.isAgg3
  z3:=Tryz.sizeOf3
  v3:=Tryz.zeroValue3
  t4:=Tryz.underlying4
  a4:=Tryz.isAgg4
  z4:=Tryz.sizeOf4
  v4:=Tryz.zeroValue4
  t5:=Tryz.underlying5
  a5:=Tryz.isAgg5
  z5:=Tryz.sizeOf5
  v5:=Tryz.zeroValue5
  t9:=Tryz.underlying9
  a9:=Tryz.isAgg9
  z9:=Tryz.sizeOf9
  v9:=Tryz.zeroValue9
  t28:=Tryz.underlying46
  a28:=Tryz.isAgg46
  z28:=Tryz.sizeOf46
  v28:=Tryz.zeroValue46
  t46:=Tryz.underlying131
  a46:=Tryz.isAgg131
  z46:=Tryz.sizeOf131
  v46:=Tryz.zeroValue131
  t51:=Tryz.underlying158
  a51:=Tryz.isAgg158
  z51:=Tryz.sizeOf158
  v51:=Tryz.zeroValue158
  t53:=Tryz.underlying160
  a53:=Tryz.isAgg160
  z53:=Tryz.sizeOf160
  v53:=Tryz.zeroValue160
  t131:=Tryz.underlying115
  a131:=Tryz.isAgg115
  z131:=Tryz.sizeOf115
  v131:=Tryz.zeroValue115
  t182:=Tryz.underlying151
  a182:=Tryz.isAgg151
  z182:=Tryz.sizeOf151
  v182:=Tryz.zeroValue151
  t183:=Tryz.underlying152
  a183:=Tryz.isAgg152
  z183:=Tryz.sizeOf152
  v183:=Tryz.zeroValue152
  t218:=Tryz.underlying179
  a218:=Tryz.isAgg179
  z218:=Tryz.sizeOf179
  v218:=Tryz.zeroValue179
  t222:=Tryz.underlying183
  a222:=Tryz.isAgg183
  z222:=Tryz.sizeOf183
  v222:=Tryz.zeroValue183
  t228:=Tryz.underlying195
  a228:=Tryz.isAgg195
  z228:=Tryz.sizeOf195
  v228:=Tryz.zeroValue195
  t229:=Tryz.underlying196
  a229:=Tryz.isAgg196
  z229:=Tryz.sizeOf196
  v229:=Tryz.zeroValue196 }
open Go.Sort Go.RowKit in
theorem Tryz.slices_Sort_int (blk off cap:Nat) (zs:List Int) (w:World) (hH:Holds (Value.int .i64) w blk off zs.toArray) (hblk:blk<w.heap.size) (hsz:zs.length<4611686018427387904) :
    Calls Tryz.prog 51 #[.slice (some ⟨blk,off,none⟩) zs.length cap] w fun e w' =>
      e=.returned (.tuple #[])∧∃ n os,w'=grow (putRow (Value.int .i64) (Sort.ahead w n) blk off (zs.mergeSort fun x y=>decide (x≤y)).toArray) os:=Any.slices_Sort_int Tryz.lays189 blk off cap zs w hH hblk hsz
def Tryz.laysNm220_ren:Go.Shelf.Ren:=⟨fun|20=>52|n=>n,fun|22=>46|3=>3|4=>4|0=>0|n=>n,fun|n=>n⟩
theorem Tryz.laysNm220:Go.Proofs.Lays2.n20 Tryz.prog Tryz.laysNm220_ren:={
  mixed:=by kernel_rfl
  f20:=Tryz.func52.trans (congrArg some (by kernel_rfl))
  t0:=Tryz.underlying0
  a0:=Tryz.isAgg0
  z0:=Tryz.sizeOf0
  v0:=Tryz.zeroValue0
  t3:=Tryz.underlying3
  a3:=Tryz.isAgg3
  z3:=Tryz.sizeOf3
  v3:=Tryz.zeroValue3
  t4:=Tryz.underlying4
  a4:=Tryz.isAgg4
  z4:=Tryz.sizeOf4
  v4:=Tryz.zeroValue4
  t22:=Tryz.underlying46
  a22:=Tryz.isAgg46
  z22:=Tryz.sizeOf46
  v22:=Tryz.zeroValue46
  i3:=by kernel_rfl }
open Go.RowKit Go.Lib Go.Sort in
theorem Tryz.slices_Compact_int (blk off cap:Nat) (zs:List Int) (w:World) (hH:Holds (Value.int .i64) w blk off zs.toArray) (hsz:zs.length≤9223372036854775807) (hcap:zs.length≤cap) :
    Calls Tryz.prog 52 #[.slice (some ⟨blk,off,none⟩) zs.length cap] w fun e w'=>e=.returned (.slice (some ⟨blk,off,none⟩) (Lib.compact zs).length cap)∧∃ q,w'=putRow (Value.int .i64) (Sort.ahead w q) blk off (Lib.compact zs++List.replicate (zs.length - (Lib.compact zs).length) 0).toArray:=Any.slices_Compact_int Tryz.laysNm220 blk off cap zs w hH hsz hcap
open Go.RowKit Go.Lib Go.Sort in
theorem Tryz.slices_Compact_int_empty (a:Option Addr) (cap:Nat) (w:World) :
    Calls Tryz.prog 52 #[.slice a 0 cap] w fun e w'=>e=.returned (.slice a 0 cap)∧w'=w:=Any.slices_Compact_int_empty Tryz.laysNm220 a cap w
open Go.RowKit Go.Sort in
theorem Tryz.slices_Sort_int_none (p:Option Addr) (cap:Nat) (w:World) :
    Calls Tryz.prog 51 #[.slice p 0 cap] w fun e w'=>e=.returned (.tuple #[])∧w'=w:=Any.slices_Sort_int_none Tryz.lays189 p cap w
end Go.Proofs
