/-
  Part of the proof of the law ModuleExact over this seat: the small logic, the data, the contracts of functions (no condition).
-/
import Derived.Test.YtamklbgaipakfaaGreatDoorQModuleExact14
import Derived.Test.YtamklbgaipakfaaGreatDoorQModuleExact7
import Derived.Test.YtamklbgaipakfaaGreatDoorQModuleExact12
import Derived.Test.YtamklbgaipakfaaGreatDoorQModuleExact13
set_option linter.unusedVariables false
set_option linter.unusedSimpArgs false
set_option linter.unusedSectionVars false
set_option maxHeartbeats 1000000
namespace Go.Proofs.YtamklbgaipakfaaGreatDoor
open Go Go.Sx Go.Proofs
attribute [local irreducible] Code.wp wpList wpAnyH
open Go.Vs
theorem eg_ (x y:Int):Fn0 Tryz.prog 153 #[.int .i64 x,.int .i64 y] (.int .i64 (Lib.compareInt x y)):=by
 refine l_ Tryz.func153 rfl rfl Tryz.ntmps153 rfl fun v0=>?_
 refine Zi 10 (fun hr1=>?_) fun hr1=>?_
 ·refine Zi 10 (fun hr2=>?_) fun hr2=>?_
  ·refine Zz 11 ?_
   exact N_ Tryz.results153 () (V_ rfl (by unfold Lib.compareInt;rw[if_neg hr1,if_neg hr2])) g_ zt
  refine Zz 9 ?_
  exact N_ Tryz.results153 () (V_ rfl (by unfold Lib.compareInt;rw[if_neg hr1,if_pos hr2])) g_ zt
 refine Zz 9 ?_
 exact N_ Tryz.results153 () (V_ rfl (by unfold Lib.compareInt;rw[if_pos hr1])) g_ zt
theorem dt_ (x y:Str):Fn0 Tryz.prog 156 #[str x,str y] (.int .i64 (Lib.compareBytes x y)):=by
 refine l_ Tryz.func156 rfl rfl Tryz.ntmps156 rfl fun v0=>?_
 refine Zi 10 (fun hr1=>?_) fun hr1=>?_
 ·refine Zz 10 ?_
  refine D_ (ot_ rfl rfl) rfl fun r2 hr2=>Zz 2 ?_
  cases r2
  ·replace hr2:=zdf hr2
   refine Zz 9 ?_
   exact N_ Tryz.results156 () (V_ rfl (by rw[iQ_,if_neg hr1,if_neg hr2])) g_ zt
  replace hr2:=zdt hr2
  refine Zz 7 ?_
  exact N_ Tryz.results156 () (V_ rfl (by rw[iQ_,if_neg hr1,if_pos hr2])) g_ zt
 refine Zz 9 ?_
 exact N_ Tryz.results156 () (V_ rfl (by rw[iQ_,if_pos hr1])) g_ zt
theorem tG_:∀ (m:Nat) (c d:Con),c.sz≤m→c.ok→d.ok→c.sz≤1000→d.sz≤1000→Tri Tryz.prog 155 #[Con.val c,Con.val d] [] [Con.memF c,Con.memF d] (fun _:Unit=>.int .i64 (Con.cmp c d)) (fun _=>[]) (fun _=>[]):=by
 intro m
 induction m with
 | zero=>intro c d h;have:=Con.sz_pos c;omega
 | succ m ih =>
   intro c d h hok1 hok2 hz1 hz2
   have hpl1:=Con.parts_lt c
   have hpl2:=Con.parts_lt d
   refine l_ Tryz.func155 rfl rfl Tryz.ntmps155 rfl fun v0=>?_
   refine Zz 2 ?_
   refine U_ rfl rfl fun b1=>U_ rfl rfl fun b2=>Zz 5 ?_
   refine z_ 4 [0,2] zk zs (Zz 3 ?_)
   refine j_ 1 rfl zk (f_ (kQ_ _ c (Nat.le_refl _) hok1 hz1) rfl g_ zf rfl fun _=>Zz 3 ?_)
   refine j_ 3 rfl zk (f_ (kQ_ _ d (Nat.le_refl _) hok2 hz2) rfl g_ zf rfl fun _=>Zz 3 ?_)
   refine j_ 4 rfl zk (f_ (eg_ (Con.sz c:Int) (Con.sz d:Int)) rfl g_ zt rfl fun _=>Zz 3 ?_)
   refine z_ 0 [5] zk zs (Zz 8 ?_)
   refine D_ (aI_ rfl rfl) rfl fun r1 hr1=>Zz 2 ?_
   refine bU_ (ι:={y:Int // y=orF ([(Lib.compareInt (Con.sz c:Int) (Con.sz d:Int))]++[(Lib.compareInt (Con.kind c) (Con.kind d))])}) (fun y=>[(2,zp_ b1 0),(3,zp_ b2 0),(4,.int .i64 0),(5,.int .i64 y.1)]) (fun y=>((b2,.cells #[.int .i64 (Con.kind d),str (Con.name d),.int .i64 (Con.lo d),.int .i64 (Con.hi d),.slice (Con.ad d) (List.length (Con.parts d)) (Con.cap d)] 46 (0,0))::((b1,.cells #[.int .i64 (Con.kind c),str (Con.name c),.int .i64 (Con.lo c),.int .i64 (Con.hi c),.slice (Con.ad c) (List.length (Con.parts c)) (Con.cap c)] 46 (0,0))::[]))) (fun y=>[Con.memF c,Con.memF d]) ?_ ?_
   · skip
     cases r1
     · skip
       replace hr1:=znb hr1
       refine Zz 3 ?_
       exact ay_ ⟨(Lib.compareInt (Con.sz c:Int) (Con.sz d:Int)),(eB_ (jh_ _).symm hr1)⟩ zl zp zf
     · skip
       replace hr1:=zeb hr1
       refine Zz 6 ?_
       refine f_ (eg_ (Con.kind c) (Con.kind d)) rfl g_ zt rfl fun _=>Zz 3 ?_
       exact ay_ ⟨(Lib.compareInt (Con.kind c) (Con.kind d)),(dS_ (jh_ _).symm hr1)⟩ zl zp zf
   · skip
     rintro ⟨nn1,hnn1⟩
     dsimp only
     refine Zz 5 ?_
     refine D_ (aI_ rfl rfl) rfl fun r2 hr2=>Zz 2 ?_
     refine bU_ (ι:={y:Int // y=orF (([(Lib.compareInt (Con.sz c:Int) (Con.sz d:Int))]++[(Lib.compareInt (Con.kind c) (Con.kind d))])++[(Lib.compareBytes (Con.name c) (Con.name d))])}) (fun y=>[(2,zp_ b1 0),(3,zp_ b2 0),(4,.int .i64 0),(5,.int .i64 y.1)]) (fun y=>((b2,.cells #[.int .i64 (Con.kind d),str (Con.name d),.int .i64 (Con.lo d),.int .i64 (Con.hi d),.slice (Con.ad d) (List.length (Con.parts d)) (Con.cap d)] 46 (0,0))::((b1,.cells #[.int .i64 (Con.kind c),str (Con.name c),.int .i64 (Con.lo c),.int .i64 (Con.hi c),.slice (Con.ad c) (List.length (Con.parts c)) (Con.cap c)] 46 (0,0))::[]))) (fun y=>[Con.memF c,Con.memF d]) ?_ ?_
     · skip
       cases r2
       · skip
         replace hr2:=znb hr2
         refine Zz 3 ?_
         exact ay_ ⟨nn1,(eB_ hnn1 hr2)⟩ zl zp zf
       · skip
         replace hr2:=zeb hr2
         refine Zz 6 ?_
         refine f_ (dt_ (Con.name c) (Con.name d)) rfl g_ zt rfl fun _=>Zz 3 ?_
         exact ay_ ⟨(Lib.compareBytes (Con.name c) (Con.name d)),(dS_ hnn1 hr2)⟩ zl zp zf
     · skip
       rintro ⟨nn2,hnn2⟩
       dsimp only
       refine Zz 5 ?_
       refine D_ (aI_ rfl rfl) rfl fun r3 hr3=>Zz 2 ?_
       refine bU_ (ι:={y:Int // y=orF ((([(Lib.compareInt (Con.sz c:Int) (Con.sz d:Int))]++[(Lib.compareInt (Con.kind c) (Con.kind d))])++[(Lib.compareBytes (Con.name c) (Con.name d))])++[(Lib.compareInt (Con.lo c) (Con.lo d))])}) (fun y=>[(2,zp_ b1 0),(3,zp_ b2 0),(4,.int .i64 0),(5,.int .i64 y.1)]) (fun y=>((b2,.cells #[.int .i64 (Con.kind d),str (Con.name d),.int .i64 (Con.lo d),.int .i64 (Con.hi d),.slice (Con.ad d) (List.length (Con.parts d)) (Con.cap d)] 46 (0,0))::((b1,.cells #[.int .i64 (Con.kind c),str (Con.name c),.int .i64 (Con.lo c),.int .i64 (Con.hi c),.slice (Con.ad c) (List.length (Con.parts c)) (Con.cap c)] 46 (0,0))::[]))) (fun y=>[Con.memF c,Con.memF d]) ?_ ?_
       · skip
         cases r3
         · skip
           replace hr3:=znb hr3
           refine Zz 3 ?_
           exact ay_ ⟨nn2,(eB_ hnn2 hr3)⟩ zl zp zf
         · skip
           replace hr3:=zeb hr3
           refine Zz 6 ?_
           refine f_ (eg_ (Con.lo c) (Con.lo d)) rfl g_ zt rfl fun _=>Zz 3 ?_
           exact ay_ ⟨(Lib.compareInt (Con.lo c) (Con.lo d)),(dS_ hnn2 hr3)⟩ zl zp zf
       · skip
         rintro ⟨nn3,hnn3⟩
         dsimp only
         refine Zz 5 ?_
         refine D_ (aI_ rfl rfl) rfl fun r4 hr4=>Zz 2 ?_
         refine bU_ (ι:={y:Int // y=orF (((([(Lib.compareInt (Con.sz c:Int) (Con.sz d:Int))]++[(Lib.compareInt (Con.kind c) (Con.kind d))])++[(Lib.compareBytes (Con.name c) (Con.name d))])++[(Lib.compareInt (Con.lo c) (Con.lo d))])++[(Lib.compareInt (Con.hi c) (Con.hi d))])}) (fun y=>[(2,zp_ b1 0),(3,zp_ b2 0),(4,.int .i64 0),(5,.int .i64 y.1)]) (fun y=>((b2,.cells #[.int .i64 (Con.kind d),str (Con.name d),.int .i64 (Con.lo d),.int .i64 (Con.hi d),.slice (Con.ad d) (List.length (Con.parts d)) (Con.cap d)] 46 (0,0))::((b1,.cells #[.int .i64 (Con.kind c),str (Con.name c),.int .i64 (Con.lo c),.int .i64 (Con.hi c),.slice (Con.ad c) (List.length (Con.parts c)) (Con.cap c)] 46 (0,0))::[]))) (fun y=>[Con.memF c,Con.memF d]) ?_ ?_
         · skip
           cases r4
           · skip
             replace hr4:=znb hr4
             refine Zz 3 ?_
             exact ay_ ⟨nn3,(eB_ hnn3 hr4)⟩ zl zp zf
           · skip
             replace hr4:=zeb hr4
             refine Zz 6 ?_
             refine f_ (eg_ (Con.hi c) (Con.hi d)) rfl g_ zt rfl fun _=>Zz 3 ?_
             exact ay_ ⟨(Lib.compareInt (Con.hi c) (Con.hi d)),(dS_ hnn3 hr4)⟩ zl zp zf
         · skip
           rintro ⟨nn4,hnn4⟩
           dsimp only
           refine Zz 8 ?_
           refine ai_ (ι:={y:Nat×Int // gH_ nn4 y.2 (Con.cmp.cmps (Con.parts c) (Con.parts d)) (Con.cmp.cmps (List.drop y.1 (Con.parts c)) (List.drop y.1 (Con.parts d))) (y.1≤List.length (Con.parts c)∧y.1≤List.length (Con.parts d))}) (fun y=>[(2,zp_ b1 0),(3,zp_ b2 0),(4,.int .i64 0),(5,.int .i64 y.1.2),(6,.int .i64 (y.1.1:Int))]) (fun y=>((b2,.cells #[.int .i64 (Con.kind d),str (Con.name d),.int .i64 (Con.lo d),.int .i64 (Con.hi d),.slice (Con.ad d) (List.length (Con.parts d)) (Con.cap d)] 46 (0,0))::((b1,.cells #[.int .i64 (Con.kind c),str (Con.name c),.int .i64 (Con.lo c),.int .i64 (Con.hi c),.slice (Con.ad c) (List.length (Con.parts c)) (Con.cap c)] 46 (0,0))::[]))) (fun y=>[Con.memF c,Con.memF d]) (fun y=>List.length (Con.parts c) - y.1.1) ⟨((0:Nat),nn4),(gH_.init ⟨Nat.zero_le _,Nat.zero_le _⟩)⟩ zl zp zh ?_
           rintro ⟨⟨i,n⟩,hlx⟩
           dsimp only at hlx ⊢
           refine Zi 4 (fun hr5=>?_) fun hr5=>?_
           · skip
             refine Zz 23 ?_
             refine D_ (aI_ rfl rfl) rfl fun r6 hr6=>Zz 2 ?_
             refine bU_ (ι:={y:Int // y=(if n=0 then (Lib.compareInt (List.length (Con.parts c):Int) (List.length (Con.parts d):Int)) else n)}) (fun y=>[(2,zp_ b1 0),(3,zp_ b2 0),(4,.int .i64 0),(6,.int .i64 (i:Int)),(5,.int .i64 y.1)]) (fun y=>((b2,.cells #[.int .i64 (Con.kind d),str (Con.name d),.int .i64 (Con.lo d),.int .i64 (Con.hi d),.slice (Con.ad d) (List.length (Con.parts d)) (Con.cap d)] 46 (0,0))::((b1,.cells #[.int .i64 (Con.kind c),str (Con.name c),.int .i64 (Con.lo c),.int .i64 (Con.hi c),.slice (Con.ad c) (List.length (Con.parts c)) (Con.cap c)] 46 (0,0))::[]))) (fun y=>[Con.memF c,Con.memF d]) ?_ ?_
             · skip
               cases r6
               · skip
                 replace hr6:=znb hr6
                 refine Zz 3 ?_
                 exact ay_ ⟨n,(by rw[if_neg hr6])⟩ zl zp zf
               · skip
                 replace hr6:=zeb hr6
                 refine Zz 8 ?_
                 refine f_ (eg_ (List.length (Con.parts c):Int) (List.length (Con.parts d):Int)) rfl g_ zt rfl fun _=>Zz 3 ?_
                 exact ay_ ⟨(Lib.compareInt (List.length (Con.parts c):Int) (List.length (Con.parts d):Int)),(by rw[if_pos hr6])⟩ zl zp zf
             · skip
               rintro ⟨nn5,hnn5⟩
               dsimp only
               have hor5:=gH_.or (o:=(Lib.compareInt (List.length (Con.parts c):Int) (List.length (Con.parts d):Int))) hlx hnn4 (fun hn hv ha=>lV_ ha.1 ha.2 (by first|(left;omega)|(right;omega)))
               rw[← hnn5]at hor5
               refine Zz 8 ?_
               exact N_ Tryz.results155 () (V_ rfl (by rw[hor5];exact (Con.cmp_eq c d).symm)) g_ zt
           · skip
             refine Zi 10 (fun hr7=>?_) fun hr7=>?_
             · skip
               refine Zz 17 ?_
               refine D_ (aI_ rfl rfl) rfl fun r8 hr8=>Zz 2 ?_
               refine bU_ (ι:={y:Int // y=(if n=0 then (Lib.compareInt (List.length (Con.parts c):Int) (List.length (Con.parts d):Int)) else n)}) (fun y=>[(2,zp_ b1 0),(3,zp_ b2 0),(4,.int .i64 0),(6,.int .i64 (i:Int)),(5,.int .i64 y.1)]) (fun y=>((b2,.cells #[.int .i64 (Con.kind d),str (Con.name d),.int .i64 (Con.lo d),.int .i64 (Con.hi d),.slice (Con.ad d) (List.length (Con.parts d)) (Con.cap d)] 46 (0,0))::((b1,.cells #[.int .i64 (Con.kind c),str (Con.name c),.int .i64 (Con.lo c),.int .i64 (Con.hi c),.slice (Con.ad c) (List.length (Con.parts c)) (Con.cap c)] 46 (0,0))::[]))) (fun y=>[Con.memF c,Con.memF d]) ?_ ?_
               · skip
                 cases r8
                 · skip
                   replace hr8:=znb hr8
                   refine Zz 3 ?_
                   exact ay_ ⟨n,(by rw[if_neg hr8])⟩ zl zp zf
                 · skip
                   replace hr8:=zeb hr8
                   refine Zz 8 ?_
                   refine f_ (eg_ (List.length (Con.parts c):Int) (List.length (Con.parts d):Int)) rfl g_ zt rfl fun _=>Zz 3 ?_
                   exact ay_ ⟨(Lib.compareInt (List.length (Con.parts c):Int) (List.length (Con.parts d):Int)),(by rw[if_pos hr8])⟩ zl zp zf
               · skip
                 rintro ⟨nn6,hnn6⟩
                 dsimp only
                 have hor6:=gH_.or (o:=(Lib.compareInt (List.length (Con.parts c):Int) (List.length (Con.parts d):Int))) hlx hnn4 (fun hn hv ha=>lV_ ha.1 ha.2 (by first|(left;omega)|(right;omega)))
                 rw[← hnn6]at hor6
                 refine Zz 8 ?_
                 exact N_ Tryz.results155 () (V_ rfl (by rw[hor6];exact (Con.cmp_eq c d).symm)) g_ zt
             · skip
               refine Zi 11 (fun hr9=>?_) fun hr9=>?_
               · skip
                 refine Zz 10 ?_
                 refine D_ (aI_ rfl rfl) rfl fun r10 hr10=>Zz 2 ?_
                 refine bU_ (ι:={y:Int // y=(if n=0 then (Lib.compareInt (List.length (Con.parts c):Int) (List.length (Con.parts d):Int)) else n)}) (fun y=>[(2,zp_ b1 0),(3,zp_ b2 0),(4,.int .i64 0),(6,.int .i64 (i:Int)),(5,.int .i64 y.1)]) (fun y=>((b2,.cells #[.int .i64 (Con.kind d),str (Con.name d),.int .i64 (Con.lo d),.int .i64 (Con.hi d),.slice (Con.ad d) (List.length (Con.parts d)) (Con.cap d)] 46 (0,0))::((b1,.cells #[.int .i64 (Con.kind c),str (Con.name c),.int .i64 (Con.lo c),.int .i64 (Con.hi c),.slice (Con.ad c) (List.length (Con.parts c)) (Con.cap c)] 46 (0,0))::[]))) (fun y=>[Con.memF c,Con.memF d]) ?_ ?_
                 · skip
                   cases r10
                   · skip
                     replace hr10:=znb hr10
                     refine Zz 3 ?_
                     exact ay_ ⟨n,(by rw[if_neg hr10])⟩ zl zp zf
                   · skip
                     replace hr10:=zeb hr10
                     refine Zz 8 ?_
                     refine f_ (eg_ (List.length (Con.parts c):Int) (List.length (Con.parts d):Int)) rfl g_ zt rfl fun _=>Zz 3 ?_
                     exact ay_ ⟨(Lib.compareInt (List.length (Con.parts c):Int) (List.length (Con.parts d):Int)),(by rw[if_pos hr10])⟩ zl zp zf
                 · skip
                   rintro ⟨nn7,hnn7⟩
                   dsimp only
                   have hor7:=gH_.or (o:=(Lib.compareInt (List.length (Con.parts c):Int) (List.length (Con.parts d):Int))) hlx hnn4 (fun hn hv ha=>lV_ ha.1 ha.2 (by first|(left;omega)|(right;omega)))
                   rw[← hnn7]at hor7
                   refine Zz 8 ?_
                   exact N_ Tryz.results155 () (V_ rfl (by rw[hor7];exact (Con.cmp_eq c d).symm)) g_ zt
               · skip
                 obtain⟨hlx1,x1,hx1,hmx1⟩:=zge (show i<List.length (Con.parts c) by omega)
                 have hly1:i<List.length (Con.parts d):=by omega
                 obtain⟨y1,hy1⟩:∃ e0,(Con.parts d)[i]? = some e0:=⟨_,List.getElem?_eq_getElem hly1⟩
                 have hmy1:y1∈(Con.parts d):=List.mem_of_getElem? hy1
                 have hn0:n=0:=by assumption
                 refine Zz 9 ?_
                 refine z_ 2 [0,1,2,3,4,5,6,7,8,9] zk zs (Zz 3 ?_)
                 refine P_ rfl (L_ ab_ A_ rfl rfl (fun v _ h=>y_ (n:=5) Con.cells_len (by decide) (by exact ((Con.mem_iff c v).1 h.1).1) hx1) (by omega) (by first|omega|(simp;done))) rfl ?_
                 refine P_ rfl (af_ (ad:=(Con.ad c)) (us:=Con.cells x1) aD_ A_ rfl (fun v _ h=>by exact ((Con.mem_iff c v).1 h.1).1) (Con.cells_len _) (u_ Con.cells_len hx1)) rfl (Zz 3 ?_)
                 refine P_ rfl (L_ ab_ A_ rfl rfl (fun v _ h=>y_ (n:=5) Con.cells_len (by decide) (by exact ((Con.mem_iff d v).1 h.2.1).1) hy1) (by omega) (by first|omega|(simp;done))) rfl ?_
                 refine P_ rfl (af_ (ad:=(Con.ad d)) (us:=Con.cells y1) aD_ A_ rfl (fun v _ h=>by exact ((Con.mem_iff d v).1 h.2.1).1) (Con.cells_len _) (u_ Con.cells_len hy1)) rfl (bA_ (j_ 10 rfl zk (f_ (ih x1 y1 (by have:=Con.sz_part hmx1;omega) (Con.ok_part hok1 hmx1) (Con.ok_part hok2 hmy1) (by have:=Con.sz_part hmx1;omega) (by have:=Con.sz_part hmy1;omega)) rfl g_ (fun v _ h=>by exact⟨(Con.mem_part (c:=c) h.1 hmx1),(Con.mem_part (c:=d) h.2.1 hmy1),trivial⟩) rfl fun _=>?_)))
                 refine Zz 3 ?_
                 refine z_ 0 [11] zk zs (Zz 10 ?_)
                 exact J_ ⟨(i+1,(Con.cmp x1 y1)),gH_.step (by rw[hn0]at hlx;exact hlx) (by rw[og_ hx1 hy1]) (fun _=>⟨by omega,by omega⟩)⟩ (by dsimp only;omega) zl zp zh
end Go.Proofs.YtamklbgaipakfaaGreatDoor
namespace Go.Proofs.YtamklbgaipakfaaGreatDoor
open Go Go.Sx Go.Proofs
attribute [local irreducible] Code.wp wpList wpAnyH
open Go.Vs
theorem mH_ (x:Ax) (hok:x.ok) (hz1:x.left.sz≤1000) (hz2:x.right.sz≤1000):Tri Tryz.prog 154 #[Ax.val x] [] [Ax.memF x] (fun _:Unit=>.int .i64 x.wgt) (fun _=>[]) (fun _=>[]):=by
 refine l_ Tryz.func154 rfl rfl Tryz.ntmps154 rfl fun v0=>?_
 have hrl:=hok.len
 have hrc:=hok.cap
 refine Zz 2 ?_
 refine U_ rfl rfl fun b1=>Zz 17 ?_
 refine D_ (bS_ rfl rfl) rfl fun r1 hr1=>Zz 2 ?_
 refine bU_ (ι:={y:Int // y=(if (bne (Con.kind (Ax.left x)) 0)=true then ((List.length (Ax.roles x):Int)+(Con.sz (Ax.left x):Int)) else (List.length (Ax.roles x):Int))}) (fun y=>[(1,zp_ b1 0),(2,.int .i64 0),(3,.int .i64 y.1)]) (fun y=>((b1,.cells #[.int .i64 (Ax.kind x),.bool (Ax.opn x),.int .i64 (Con.kind (Ax.left x)),str (Con.name (Ax.left x)),.int .i64 (Con.lo (Ax.left x)),.int .i64 (Con.hi (Ax.left x)),.slice (Con.ad (Ax.left x)) (List.length (Con.parts (Ax.left x))) (Con.cap (Ax.left x)),.int .i64 (Con.kind (Ax.right x)),str (Con.name (Ax.right x)),.int .i64 (Con.lo (Ax.right x)),.int .i64 (Con.hi (Ax.right x)),.slice (Con.ad (Ax.right x)) (List.length (Con.parts (Ax.right x))) (Con.cap (Ax.right x)),.slice (Ax.ad x) (List.length (Ax.roles x)) (Ax.cap x),str (Ax.role x),str (Ax.a x),str (Ax.b x)] 48 (0,0))::[])) (fun y=>[Ax.memF x]) ?_ ?_
 ·cases r1
  ·replace hr1:=dn_ hr1
   refine Zz 3 ?_
   exact ay_ ⟨(List.length (Ax.roles x):Int),(by rw[if_neg (by simpa using hr1)])⟩ zl e_ zf
  replace hr1:=dl_ hr1
  refine Zz 5 ?_
  refine f_ (kQ_ _ (Ax.left x) (Nat.le_refl _) hok.left hz1) rfl g_ (fun v _ h=>by exact⟨h.1.1,trivial⟩) rfl fun _=>Zz 4 ?_
  exact ay_ ⟨((List.length (Ax.roles x):Int)+(Con.sz (Ax.left x):Int)),(by rw[if_pos (by simpa using hr1)])⟩ zl e_ zf
 rintro ⟨nn1,hnn1⟩
 dsimp only
 have hbw1:nn1≤8796093021952+1*1001∧0≤nn1:=by have q:=hnn1;split at q<;>omega
 refine Zz 7 ?_
 refine D_ (bS_ rfl rfl) rfl fun r2 hr2=>Zz 2 ?_
 refine bU_ (ι:={y:Int // y=(if (bne (Con.kind (Ax.right x)) 0)=true then (nn1+(Con.sz (Ax.right x):Int)) else nn1)}) (fun y=>[(1,zp_ b1 0),(2,.int .i64 0),(3,.int .i64 y.1)]) (fun y=>((b1,.cells #[.int .i64 (Ax.kind x),.bool (Ax.opn x),.int .i64 (Con.kind (Ax.left x)),str (Con.name (Ax.left x)),.int .i64 (Con.lo (Ax.left x)),.int .i64 (Con.hi (Ax.left x)),.slice (Con.ad (Ax.left x)) (List.length (Con.parts (Ax.left x))) (Con.cap (Ax.left x)),.int .i64 (Con.kind (Ax.right x)),str (Con.name (Ax.right x)),.int .i64 (Con.lo (Ax.right x)),.int .i64 (Con.hi (Ax.right x)),.slice (Con.ad (Ax.right x)) (List.length (Con.parts (Ax.right x))) (Con.cap (Ax.right x)),.slice (Ax.ad x) (List.length (Ax.roles x)) (Ax.cap x),str (Ax.role x),str (Ax.a x),str (Ax.b x)] 48 (0,0))::[])) (fun y=>[Ax.memF x]) ?_ ?_
 ·cases r2
  ·replace hr2:=dn_ hr2
   refine Zz 3 ?_
   exact ay_ ⟨nn1,(by rw[if_neg (by simpa using hr2)])⟩ zl e_ zf
  replace hr2:=dl_ hr2
  refine Zz 5 ?_
  refine f_ (kQ_ _ (Ax.right x) (Nat.le_refl _) hok.right hz2) rfl g_ (fun v _ h=>by exact⟨h.1.2.1,trivial⟩) rfl fun _=>Zz 4 ?_
  exact ay_ ⟨(nn1+(Con.sz (Ax.right x):Int)),(by rw[if_pos (by simpa using hr2)])⟩ zl e_ zf
 rintro ⟨nn2,hnn2⟩
 dsimp only
 have hbw2:nn2≤8796093021952+2*1001∧0≤nn2:=by have q:=hnn2;split at q<;>omega
 refine Zz 6 ?_
 refine D_ (fz_ rfl rfl) rfl fun r3 hr3=>Zz 2 ?_
 refine bU_ (ι:={y:Int // y=(if (bne (Ax.role x) [])=true then (nn2+1) else nn2)}) (fun y=>[(1,zp_ b1 0),(2,.int .i64 0),(3,.int .i64 y.1)]) (fun y=>((b1,.cells #[.int .i64 (Ax.kind x),.bool (Ax.opn x),.int .i64 (Con.kind (Ax.left x)),str (Con.name (Ax.left x)),.int .i64 (Con.lo (Ax.left x)),.int .i64 (Con.hi (Ax.left x)),.slice (Con.ad (Ax.left x)) (List.length (Con.parts (Ax.left x))) (Con.cap (Ax.left x)),.int .i64 (Con.kind (Ax.right x)),str (Con.name (Ax.right x)),.int .i64 (Con.lo (Ax.right x)),.int .i64 (Con.hi (Ax.right x)),.slice (Con.ad (Ax.right x)) (List.length (Con.parts (Ax.right x))) (Con.cap (Ax.right x)),.slice (Ax.ad x) (List.length (Ax.roles x)) (Ax.cap x),str (Ax.role x),str (Ax.a x),str (Ax.b x)] 48 (0,0))::[])) (fun y=>[Ax.memF x]) ?_ ?_
 ·cases r3
  ·replace hr3:=dn_ hr3
   refine Zz 3 ?_
   exact ay_ ⟨nn2,(by rw[if_neg (by simpa using hr3)])⟩ zl e_ zf
  replace hr3:=dl_ hr3
  refine Zz 7 ?_
  exact ay_ ⟨(nn2+1),(by rw[if_pos (by simpa using hr3)])⟩ zl e_ zf
 rintro ⟨nn3,hnn3⟩
 dsimp only
 have hbw3:nn3≤8796093021952+3*1001∧0≤nn3:=by have q:=hnn3;split at q<;>omega
 refine Zz 6 ?_
 refine D_ (fz_ rfl rfl) rfl fun r4 hr4=>Zz 2 ?_
 refine bU_ (ι:={y:Int // y=(if (bne (Ax.a x) [])=true then (nn3+1) else nn3)}) (fun y=>[(1,zp_ b1 0),(2,.int .i64 0),(3,.int .i64 y.1)]) (fun y=>((b1,.cells #[.int .i64 (Ax.kind x),.bool (Ax.opn x),.int .i64 (Con.kind (Ax.left x)),str (Con.name (Ax.left x)),.int .i64 (Con.lo (Ax.left x)),.int .i64 (Con.hi (Ax.left x)),.slice (Con.ad (Ax.left x)) (List.length (Con.parts (Ax.left x))) (Con.cap (Ax.left x)),.int .i64 (Con.kind (Ax.right x)),str (Con.name (Ax.right x)),.int .i64 (Con.lo (Ax.right x)),.int .i64 (Con.hi (Ax.right x)),.slice (Con.ad (Ax.right x)) (List.length (Con.parts (Ax.right x))) (Con.cap (Ax.right x)),.slice (Ax.ad x) (List.length (Ax.roles x)) (Ax.cap x),str (Ax.role x),str (Ax.a x),str (Ax.b x)] 48 (0,0))::[])) (fun y=>[Ax.memF x]) ?_ ?_
 ·cases r4
  ·replace hr4:=dn_ hr4
   refine Zz 3 ?_
   exact ay_ ⟨nn3,(by rw[if_neg (by simpa using hr4)])⟩ zl e_ zf
  replace hr4:=dl_ hr4
  refine Zz 7 ?_
  exact ay_ ⟨(nn3+1),(by rw[if_pos (by simpa using hr4)])⟩ zl e_ zf
 rintro ⟨nn4,hnn4⟩
 dsimp only
 have hbw4:nn4≤8796093021952+4*1001∧0≤nn4:=by have q:=hnn4;split at q<;>omega
 refine Zz 6 ?_
 refine D_ (fz_ rfl rfl) rfl fun r5 hr5=>Zz 2 ?_
 refine bU_ (ι:={y:Int // y=(if (bne (Ax.b x) [])=true then (nn4+1) else nn4)}) (fun y=>[(2,.int .i64 0),(3,.int .i64 y.1)]) (fun y=>((b1,.cells #[.int .i64 (Ax.kind x),.bool (Ax.opn x),.int .i64 (Con.kind (Ax.left x)),str (Con.name (Ax.left x)),.int .i64 (Con.lo (Ax.left x)),.int .i64 (Con.hi (Ax.left x)),.slice (Con.ad (Ax.left x)) (List.length (Con.parts (Ax.left x))) (Con.cap (Ax.left x)),.int .i64 (Con.kind (Ax.right x)),str (Con.name (Ax.right x)),.int .i64 (Con.lo (Ax.right x)),.int .i64 (Con.hi (Ax.right x)),.slice (Con.ad (Ax.right x)) (List.length (Con.parts (Ax.right x))) (Con.cap (Ax.right x)),.slice (Ax.ad x) (List.length (Ax.roles x)) (Ax.cap x),str (Ax.role x),str (Ax.a x),str (Ax.b x)] 48 (0,0))::[])) (fun y=>[Ax.memF x]) ?_ ?_
 ·cases r5
  ·replace hr5:=dn_ hr5
   refine Zz 3 ?_
   exact ay_ ⟨nn4,(by rw[if_neg (by simpa using hr5)])⟩ zl e_ zf
  replace hr5:=dl_ hr5
  refine Zz 7 ?_
  exact ay_ ⟨(nn4+1),(by rw[if_pos (by simpa using hr5)])⟩ zl e_ zf
 rintro ⟨nn5,hnn5⟩
 dsimp only
 have hbw5:nn5≤8796093021952+5*1001∧0≤nn5:=by have q:=hnn5;split at q<;>omega
 refine Zz 8 ?_
 exact N_ Tryz.results154 () (V_ rfl (by unfold Ax.wgt;simp only[bne_iff_ne,ne_eq]at hnn1 hnn2 hnn3 hnn4 hnn5;rw[hnn5,hnn4,hnn3,hnn2,hnn1];(repeat' split)<;>first|omega|(exfalso;simp_all;done))) g_ zt
theorem tH_ (x w:Ax) (hok1:x.ok) (hok2:w.ok) (hz1l:x.left.sz≤1000) (hz1r:x.right.sz≤1000) (hz2l:w.left.sz≤1000) (hz2r:w.right.sz≤1000):Tri Tryz.prog 77 #[Ax.val x,Ax.val w] [] [Ax.memF x,Ax.memF w] (fun _:Unit=>.int .i64 (Ax.cmp x w)) (fun _=>[]) (fun _=>[]):=by
 refine l_ Tryz.func77 rfl rfl Tryz.ntmps77 rfl fun v0=>?_
 have hrl1:=hok1.len
 have hrc1:=hok1.cap
 have hrl2:=hok2.len
 have hrc2:=hok2.cap
 refine Zz 2 ?_
 refine U_ rfl rfl fun b1=>U_ rfl rfl fun b2=>Zz 5 ?_
 refine z_ 4 [0,2] zk zs (Zz 3 ?_)
 refine j_ 1 rfl zk (f_ (mH_ x hok1 hz1l hz1r) rfl g_ zf rfl fun _=>Zz 3 ?_)
 refine j_ 3 rfl zk (f_ (mH_ w hok2 hz2l hz2r) rfl g_ zf rfl fun _=>Zz 3 ?_)
 refine j_ 4 rfl zk (f_ (eg_ (Ax.wgt x) (Ax.wgt w)) rfl g_ zt rfl fun _=>Zz 3 ?_)
 refine z_ 0 [5] zk zs (Zz 8 ?_)
 refine D_ (aI_ rfl rfl) rfl fun r1 hr1=>Zz 2 ?_
 refine bU_ (ι:={y:Int // y=orF ([(Lib.compareInt (Ax.wgt x) (Ax.wgt w))]++[(Lib.compareInt (Ax.kind x) (Ax.kind w))])}) (fun y=>[(2,zp_ b1 0),(3,zp_ b2 0),(4,.int .i64 0),(5,.int .i64 y.1)]) (fun y=>((b2,.cells #[.int .i64 (Ax.kind w),.bool (Ax.opn w),.int .i64 (Con.kind (Ax.left w)),str (Con.name (Ax.left w)),.int .i64 (Con.lo (Ax.left w)),.int .i64 (Con.hi (Ax.left w)),.slice (Con.ad (Ax.left w)) (List.length (Con.parts (Ax.left w))) (Con.cap (Ax.left w)),.int .i64 (Con.kind (Ax.right w)),str (Con.name (Ax.right w)),.int .i64 (Con.lo (Ax.right w)),.int .i64 (Con.hi (Ax.right w)),.slice (Con.ad (Ax.right w)) (List.length (Con.parts (Ax.right w))) (Con.cap (Ax.right w)),.slice (Ax.ad w) (List.length (Ax.roles w)) (Ax.cap w),str (Ax.role w),str (Ax.a w),str (Ax.b w)] 48 (0,0))::((b1,.cells #[.int .i64 (Ax.kind x),.bool (Ax.opn x),.int .i64 (Con.kind (Ax.left x)),str (Con.name (Ax.left x)),.int .i64 (Con.lo (Ax.left x)),.int .i64 (Con.hi (Ax.left x)),.slice (Con.ad (Ax.left x)) (List.length (Con.parts (Ax.left x))) (Con.cap (Ax.left x)),.int .i64 (Con.kind (Ax.right x)),str (Con.name (Ax.right x)),.int .i64 (Con.lo (Ax.right x)),.int .i64 (Con.hi (Ax.right x)),.slice (Con.ad (Ax.right x)) (List.length (Con.parts (Ax.right x))) (Con.cap (Ax.right x)),.slice (Ax.ad x) (List.length (Ax.roles x)) (Ax.cap x),str (Ax.role x),str (Ax.a x),str (Ax.b x)] 48 (0,0))::[]))) (fun y=>[Ax.memF x,Ax.memF w]) ?_ ?_
 ·cases r1
  ·replace hr1:=znb hr1
   refine Zz 3 ?_
   exact ay_ ⟨(Lib.compareInt (Ax.wgt x) (Ax.wgt w)),(eB_ (jh_ _).symm hr1)⟩ zl zp zf
  replace hr1:=zeb hr1
  refine Zz 6 ?_
  refine f_ (eg_ (Ax.kind x) (Ax.kind w)) rfl g_ zt rfl fun _=>Zz 3 ?_
  exact ay_ ⟨(Lib.compareInt (Ax.kind x) (Ax.kind w)),(dS_ (jh_ _).symm hr1)⟩ zl zp zf
 rintro ⟨nn1,hnn1⟩
 dsimp only
 refine Zz 5 ?_
 refine D_ (aI_ rfl rfl) rfl fun r2 hr2=>Zz 2 ?_
 refine bU_ (ι:={y:Int // y=orF (([(Lib.compareInt (Ax.wgt x) (Ax.wgt w))]++[(Lib.compareInt (Ax.kind x) (Ax.kind w))])++[(Con.cmp (Ax.left x) (Ax.left w))])}) (fun y=>[(2,zp_ b1 0),(3,zp_ b2 0),(4,.int .i64 0),(5,.int .i64 y.1)]) (fun y=>((b2,.cells #[.int .i64 (Ax.kind w),.bool (Ax.opn w),.int .i64 (Con.kind (Ax.left w)),str (Con.name (Ax.left w)),.int .i64 (Con.lo (Ax.left w)),.int .i64 (Con.hi (Ax.left w)),.slice (Con.ad (Ax.left w)) (List.length (Con.parts (Ax.left w))) (Con.cap (Ax.left w)),.int .i64 (Con.kind (Ax.right w)),str (Con.name (Ax.right w)),.int .i64 (Con.lo (Ax.right w)),.int .i64 (Con.hi (Ax.right w)),.slice (Con.ad (Ax.right w)) (List.length (Con.parts (Ax.right w))) (Con.cap (Ax.right w)),.slice (Ax.ad w) (List.length (Ax.roles w)) (Ax.cap w),str (Ax.role w),str (Ax.a w),str (Ax.b w)] 48 (0,0))::((b1,.cells #[.int .i64 (Ax.kind x),.bool (Ax.opn x),.int .i64 (Con.kind (Ax.left x)),str (Con.name (Ax.left x)),.int .i64 (Con.lo (Ax.left x)),.int .i64 (Con.hi (Ax.left x)),.slice (Con.ad (Ax.left x)) (List.length (Con.parts (Ax.left x))) (Con.cap (Ax.left x)),.int .i64 (Con.kind (Ax.right x)),str (Con.name (Ax.right x)),.int .i64 (Con.lo (Ax.right x)),.int .i64 (Con.hi (Ax.right x)),.slice (Con.ad (Ax.right x)) (List.length (Con.parts (Ax.right x))) (Con.cap (Ax.right x)),.slice (Ax.ad x) (List.length (Ax.roles x)) (Ax.cap x),str (Ax.role x),str (Ax.a x),str (Ax.b x)] 48 (0,0))::[]))) (fun y=>[Ax.memF x,Ax.memF w]) ?_ ?_
 ·cases r2
  ·replace hr2:=znb hr2
   refine Zz 3 ?_
   exact ay_ ⟨nn1,(eB_ hnn1 hr2)⟩ zl zp zf
  replace hr2:=zeb hr2
  refine Zz 6 ?_
  refine f_ (tG_ _ (Ax.left x) (Ax.left w) (Nat.le_refl _) hok1.left hok2.left hz1l hz2l) rfl g_ (fun v _ h=>by exact⟨h.1.1,h.2.1.1,trivial⟩) rfl fun _=>Zz 3 ?_
  exact ay_ ⟨(Con.cmp (Ax.left x) (Ax.left w)),(dS_ hnn1 hr2)⟩ zl zp zf
 rintro ⟨nn2,hnn2⟩
 dsimp only
 refine Zz 5 ?_
 refine D_ (aI_ rfl rfl) rfl fun r3 hr3=>Zz 2 ?_
 refine bU_ (ι:={y:Int // y=orF ((([(Lib.compareInt (Ax.wgt x) (Ax.wgt w))]++[(Lib.compareInt (Ax.kind x) (Ax.kind w))])++[(Con.cmp (Ax.left x) (Ax.left w))])++[(Con.cmp (Ax.right x) (Ax.right w))])}) (fun y=>[(2,zp_ b1 0),(3,zp_ b2 0),(4,.int .i64 0),(5,.int .i64 y.1)]) (fun y=>((b2,.cells #[.int .i64 (Ax.kind w),.bool (Ax.opn w),.int .i64 (Con.kind (Ax.left w)),str (Con.name (Ax.left w)),.int .i64 (Con.lo (Ax.left w)),.int .i64 (Con.hi (Ax.left w)),.slice (Con.ad (Ax.left w)) (List.length (Con.parts (Ax.left w))) (Con.cap (Ax.left w)),.int .i64 (Con.kind (Ax.right w)),str (Con.name (Ax.right w)),.int .i64 (Con.lo (Ax.right w)),.int .i64 (Con.hi (Ax.right w)),.slice (Con.ad (Ax.right w)) (List.length (Con.parts (Ax.right w))) (Con.cap (Ax.right w)),.slice (Ax.ad w) (List.length (Ax.roles w)) (Ax.cap w),str (Ax.role w),str (Ax.a w),str (Ax.b w)] 48 (0,0))::((b1,.cells #[.int .i64 (Ax.kind x),.bool (Ax.opn x),.int .i64 (Con.kind (Ax.left x)),str (Con.name (Ax.left x)),.int .i64 (Con.lo (Ax.left x)),.int .i64 (Con.hi (Ax.left x)),.slice (Con.ad (Ax.left x)) (List.length (Con.parts (Ax.left x))) (Con.cap (Ax.left x)),.int .i64 (Con.kind (Ax.right x)),str (Con.name (Ax.right x)),.int .i64 (Con.lo (Ax.right x)),.int .i64 (Con.hi (Ax.right x)),.slice (Con.ad (Ax.right x)) (List.length (Con.parts (Ax.right x))) (Con.cap (Ax.right x)),.slice (Ax.ad x) (List.length (Ax.roles x)) (Ax.cap x),str (Ax.role x),str (Ax.a x),str (Ax.b x)] 48 (0,0))::[]))) (fun y=>[Ax.memF x,Ax.memF w]) ?_ ?_
 ·cases r3
  ·replace hr3:=znb hr3
   refine Zz 3 ?_
   exact ay_ ⟨nn2,(eB_ hnn2 hr3)⟩ zl zp zf
  replace hr3:=zeb hr3
  refine Zz 6 ?_
  refine f_ (tG_ _ (Ax.right x) (Ax.right w) (Nat.le_refl _) hok1.right hok2.right hz1r hz2r) rfl g_ (fun v _ h=>by exact⟨h.1.2.1,h.2.1.2.1,trivial⟩) rfl fun _=>Zz 3 ?_
  exact ay_ ⟨(Con.cmp (Ax.right x) (Ax.right w)),(dS_ hnn2 hr3)⟩ zl zp zf
 rintro ⟨nn3,hnn3⟩
 dsimp only
 refine Zz 8 ?_
 refine ai_ (ι:={y:Nat×Int // gH_ nn3 y.2 (ed_ (Ax.roles x) (Ax.roles w)) (ed_ (List.drop y.1 (Ax.roles x)) (List.drop y.1 (Ax.roles w))) (y.1≤List.length (Ax.roles x)∧y.1≤List.length (Ax.roles w))}) (fun y=>[(2,zp_ b1 0),(3,zp_ b2 0),(4,.int .i64 0),(5,.int .i64 y.1.2),(6,.int .i64 (y.1.1:Int))]) (fun y=>((b2,.cells #[.int .i64 (Ax.kind w),.bool (Ax.opn w),.int .i64 (Con.kind (Ax.left w)),str (Con.name (Ax.left w)),.int .i64 (Con.lo (Ax.left w)),.int .i64 (Con.hi (Ax.left w)),.slice (Con.ad (Ax.left w)) (List.length (Con.parts (Ax.left w))) (Con.cap (Ax.left w)),.int .i64 (Con.kind (Ax.right w)),str (Con.name (Ax.right w)),.int .i64 (Con.lo (Ax.right w)),.int .i64 (Con.hi (Ax.right w)),.slice (Con.ad (Ax.right w)) (List.length (Con.parts (Ax.right w))) (Con.cap (Ax.right w)),.slice (Ax.ad w) (List.length (Ax.roles w)) (Ax.cap w),str (Ax.role w),str (Ax.a w),str (Ax.b w)] 48 (0,0))::((b1,.cells #[.int .i64 (Ax.kind x),.bool (Ax.opn x),.int .i64 (Con.kind (Ax.left x)),str (Con.name (Ax.left x)),.int .i64 (Con.lo (Ax.left x)),.int .i64 (Con.hi (Ax.left x)),.slice (Con.ad (Ax.left x)) (List.length (Con.parts (Ax.left x))) (Con.cap (Ax.left x)),.int .i64 (Con.kind (Ax.right x)),str (Con.name (Ax.right x)),.int .i64 (Con.lo (Ax.right x)),.int .i64 (Con.hi (Ax.right x)),.slice (Con.ad (Ax.right x)) (List.length (Con.parts (Ax.right x))) (Con.cap (Ax.right x)),.slice (Ax.ad x) (List.length (Ax.roles x)) (Ax.cap x),str (Ax.role x),str (Ax.a x),str (Ax.b x)] 48 (0,0))::[]))) (fun y=>[Ax.memF x,Ax.memF w]) (fun y=>List.length (Ax.roles x) - y.1.1) ⟨((0:Nat),nn3),(gH_.init ⟨Nat.zero_le _,Nat.zero_le _⟩)⟩ zl zp zh ?_
 rintro ⟨⟨i,n⟩,hlx⟩
 dsimp only at hlx ⊢
 refine Zi 4 (fun hr4=>?_) fun hr4=>?_
 ·refine Zz 23 ?_
  refine D_ (aI_ rfl rfl) rfl fun r5 hr5=>Zz 2 ?_
  refine bU_ (ι:={y:Int // y=(if n=0 then (Lib.compareInt (List.length (Ax.roles x):Int) (List.length (Ax.roles w):Int)) else n)}) (fun y=>[(2,zp_ b1 0),(3,zp_ b2 0),(4,.int .i64 0),(6,.int .i64 (i:Int)),(5,.int .i64 y.1)]) (fun y=>((b2,.cells #[.int .i64 (Ax.kind w),.bool (Ax.opn w),.int .i64 (Con.kind (Ax.left w)),str (Con.name (Ax.left w)),.int .i64 (Con.lo (Ax.left w)),.int .i64 (Con.hi (Ax.left w)),.slice (Con.ad (Ax.left w)) (List.length (Con.parts (Ax.left w))) (Con.cap (Ax.left w)),.int .i64 (Con.kind (Ax.right w)),str (Con.name (Ax.right w)),.int .i64 (Con.lo (Ax.right w)),.int .i64 (Con.hi (Ax.right w)),.slice (Con.ad (Ax.right w)) (List.length (Con.parts (Ax.right w))) (Con.cap (Ax.right w)),.slice (Ax.ad w) (List.length (Ax.roles w)) (Ax.cap w),str (Ax.role w),str (Ax.a w),str (Ax.b w)] 48 (0,0))::((b1,.cells #[.int .i64 (Ax.kind x),.bool (Ax.opn x),.int .i64 (Con.kind (Ax.left x)),str (Con.name (Ax.left x)),.int .i64 (Con.lo (Ax.left x)),.int .i64 (Con.hi (Ax.left x)),.slice (Con.ad (Ax.left x)) (List.length (Con.parts (Ax.left x))) (Con.cap (Ax.left x)),.int .i64 (Con.kind (Ax.right x)),str (Con.name (Ax.right x)),.int .i64 (Con.lo (Ax.right x)),.int .i64 (Con.hi (Ax.right x)),.slice (Con.ad (Ax.right x)) (List.length (Con.parts (Ax.right x))) (Con.cap (Ax.right x)),.slice (Ax.ad x) (List.length (Ax.roles x)) (Ax.cap x),str (Ax.role x),str (Ax.a x),str (Ax.b x)] 48 (0,0))::[]))) (fun y=>[Ax.memF x,Ax.memF w]) ?_ ?_
  ·cases r5
   ·replace hr5:=znb hr5
    refine Zz 3 ?_
    exact ay_ ⟨n,(by rw[if_neg hr5])⟩ zl zp zf
   replace hr5:=zeb hr5
   refine Zz 8 ?_
   refine f_ (eg_ (List.length (Ax.roles x):Int) (List.length (Ax.roles w):Int)) rfl g_ zt rfl fun _=>Zz 3 ?_
   exact ay_ ⟨(Lib.compareInt (List.length (Ax.roles x):Int) (List.length (Ax.roles w):Int)),(by rw[if_pos hr5])⟩ zl zp zf
  rintro ⟨nn4,hnn4⟩
  dsimp only
  have hor4:=gH_.or (o:=(Lib.compareInt (List.length (Ax.roles x):Int) (List.length (Ax.roles w):Int))) hlx hnn3 (fun hn hv ha=>lX_ ha.1 ha.2 (by first|(left;omega)|(right;omega)))
  rw[← hnn4]at hor4
  refine Zz 5 ?_
  refine D_ (aI_ rfl rfl) rfl fun r6 hr6=>Zz 2 ?_
  refine bU_ (ι:={y:Int // y=orF ((((([(Lib.compareInt (Ax.wgt x) (Ax.wgt w))]++[(Lib.compareInt (Ax.kind x) (Ax.kind w))])++[(Con.cmp (Ax.left x) (Ax.left w))])++[(Con.cmp (Ax.right x) (Ax.right w))])++[ed_ (Ax.roles x) (Ax.roles w)])++[(Lib.compareBytes (Ax.role x) (Ax.role w))])}) (fun y=>[(2,zp_ b1 0),(3,zp_ b2 0),(4,.int .i64 0),(6,.int .i64 (i:Int)),(5,.int .i64 y.1)]) (fun y=>((b2,.cells #[.int .i64 (Ax.kind w),.bool (Ax.opn w),.int .i64 (Con.kind (Ax.left w)),str (Con.name (Ax.left w)),.int .i64 (Con.lo (Ax.left w)),.int .i64 (Con.hi (Ax.left w)),.slice (Con.ad (Ax.left w)) (List.length (Con.parts (Ax.left w))) (Con.cap (Ax.left w)),.int .i64 (Con.kind (Ax.right w)),str (Con.name (Ax.right w)),.int .i64 (Con.lo (Ax.right w)),.int .i64 (Con.hi (Ax.right w)),.slice (Con.ad (Ax.right w)) (List.length (Con.parts (Ax.right w))) (Con.cap (Ax.right w)),.slice (Ax.ad w) (List.length (Ax.roles w)) (Ax.cap w),str (Ax.role w),str (Ax.a w),str (Ax.b w)] 48 (0,0))::((b1,.cells #[.int .i64 (Ax.kind x),.bool (Ax.opn x),.int .i64 (Con.kind (Ax.left x)),str (Con.name (Ax.left x)),.int .i64 (Con.lo (Ax.left x)),.int .i64 (Con.hi (Ax.left x)),.slice (Con.ad (Ax.left x)) (List.length (Con.parts (Ax.left x))) (Con.cap (Ax.left x)),.int .i64 (Con.kind (Ax.right x)),str (Con.name (Ax.right x)),.int .i64 (Con.lo (Ax.right x)),.int .i64 (Con.hi (Ax.right x)),.slice (Con.ad (Ax.right x)) (List.length (Con.parts (Ax.right x))) (Con.cap (Ax.right x)),.slice (Ax.ad x) (List.length (Ax.roles x)) (Ax.cap x),str (Ax.role x),str (Ax.a x),str (Ax.b x)] 48 (0,0))::[]))) (fun y=>[Ax.memF x,Ax.memF w]) ?_ ?_
  ·cases r6
   ·replace hr6:=znb hr6
    refine Zz 3 ?_
    exact ay_ ⟨nn4,(eB_ hor4 hr6)⟩ zl zp zf
   replace hr6:=zeb hr6
   refine Zz 6 ?_
   refine f_ (dt_ (Ax.role x) (Ax.role w)) rfl g_ zt rfl fun _=>Zz 3 ?_
   exact ay_ ⟨(Lib.compareBytes (Ax.role x) (Ax.role w)),(dS_ hor4 hr6)⟩ zl zp zf
  rintro ⟨nn5,hnn5⟩
  dsimp only
  refine Zz 5 ?_
  refine D_ (aI_ rfl rfl) rfl fun r7 hr7=>Zz 2 ?_
  refine bU_ (ι:={y:Int // y=orF (((((([(Lib.compareInt (Ax.wgt x) (Ax.wgt w))]++[(Lib.compareInt (Ax.kind x) (Ax.kind w))])++[(Con.cmp (Ax.left x) (Ax.left w))])++[(Con.cmp (Ax.right x) (Ax.right w))])++[ed_ (Ax.roles x) (Ax.roles w)])++[(Lib.compareBytes (Ax.role x) (Ax.role w))])++[(Lib.compareBytes (Ax.a x) (Ax.a w))])}) (fun y=>[(2,zp_ b1 0),(3,zp_ b2 0),(4,.int .i64 0),(6,.int .i64 (i:Int)),(5,.int .i64 y.1)]) (fun y=>((b2,.cells #[.int .i64 (Ax.kind w),.bool (Ax.opn w),.int .i64 (Con.kind (Ax.left w)),str (Con.name (Ax.left w)),.int .i64 (Con.lo (Ax.left w)),.int .i64 (Con.hi (Ax.left w)),.slice (Con.ad (Ax.left w)) (List.length (Con.parts (Ax.left w))) (Con.cap (Ax.left w)),.int .i64 (Con.kind (Ax.right w)),str (Con.name (Ax.right w)),.int .i64 (Con.lo (Ax.right w)),.int .i64 (Con.hi (Ax.right w)),.slice (Con.ad (Ax.right w)) (List.length (Con.parts (Ax.right w))) (Con.cap (Ax.right w)),.slice (Ax.ad w) (List.length (Ax.roles w)) (Ax.cap w),str (Ax.role w),str (Ax.a w),str (Ax.b w)] 48 (0,0))::((b1,.cells #[.int .i64 (Ax.kind x),.bool (Ax.opn x),.int .i64 (Con.kind (Ax.left x)),str (Con.name (Ax.left x)),.int .i64 (Con.lo (Ax.left x)),.int .i64 (Con.hi (Ax.left x)),.slice (Con.ad (Ax.left x)) (List.length (Con.parts (Ax.left x))) (Con.cap (Ax.left x)),.int .i64 (Con.kind (Ax.right x)),str (Con.name (Ax.right x)),.int .i64 (Con.lo (Ax.right x)),.int .i64 (Con.hi (Ax.right x)),.slice (Con.ad (Ax.right x)) (List.length (Con.parts (Ax.right x))) (Con.cap (Ax.right x)),.slice (Ax.ad x) (List.length (Ax.roles x)) (Ax.cap x),str (Ax.role x),str (Ax.a x),str (Ax.b x)] 48 (0,0))::[]))) (fun y=>[Ax.memF x,Ax.memF w]) ?_ ?_
  ·cases r7
   ·replace hr7:=znb hr7
    refine Zz 3 ?_
    exact ay_ ⟨nn5,(eB_ hnn5 hr7)⟩ zl zp zf
   replace hr7:=zeb hr7
   refine Zz 6 ?_
   refine f_ (dt_ (Ax.a x) (Ax.a w)) rfl g_ zt rfl fun _=>Zz 3 ?_
   exact ay_ ⟨(Lib.compareBytes (Ax.a x) (Ax.a w)),(dS_ hnn5 hr7)⟩ zl zp zf
  rintro ⟨nn6,hnn6⟩
  dsimp only
  refine Zz 5 ?_
  refine D_ (aI_ rfl rfl) rfl fun r8 hr8=>Zz 2 ?_
  refine bU_ (ι:={y:Int // y=orF ((((((([(Lib.compareInt (Ax.wgt x) (Ax.wgt w))]++[(Lib.compareInt (Ax.kind x) (Ax.kind w))])++[(Con.cmp (Ax.left x) (Ax.left w))])++[(Con.cmp (Ax.right x) (Ax.right w))])++[ed_ (Ax.roles x) (Ax.roles w)])++[(Lib.compareBytes (Ax.role x) (Ax.role w))])++[(Lib.compareBytes (Ax.a x) (Ax.a w))])++[(Lib.compareBytes (Ax.b x) (Ax.b w))])}) (fun y=>[(2,zp_ b1 0),(3,zp_ b2 0),(4,.int .i64 0),(6,.int .i64 (i:Int)),(5,.int .i64 y.1)]) (fun y=>((b2,.cells #[.int .i64 (Ax.kind w),.bool (Ax.opn w),.int .i64 (Con.kind (Ax.left w)),str (Con.name (Ax.left w)),.int .i64 (Con.lo (Ax.left w)),.int .i64 (Con.hi (Ax.left w)),.slice (Con.ad (Ax.left w)) (List.length (Con.parts (Ax.left w))) (Con.cap (Ax.left w)),.int .i64 (Con.kind (Ax.right w)),str (Con.name (Ax.right w)),.int .i64 (Con.lo (Ax.right w)),.int .i64 (Con.hi (Ax.right w)),.slice (Con.ad (Ax.right w)) (List.length (Con.parts (Ax.right w))) (Con.cap (Ax.right w)),.slice (Ax.ad w) (List.length (Ax.roles w)) (Ax.cap w),str (Ax.role w),str (Ax.a w),str (Ax.b w)] 48 (0,0))::((b1,.cells #[.int .i64 (Ax.kind x),.bool (Ax.opn x),.int .i64 (Con.kind (Ax.left x)),str (Con.name (Ax.left x)),.int .i64 (Con.lo (Ax.left x)),.int .i64 (Con.hi (Ax.left x)),.slice (Con.ad (Ax.left x)) (List.length (Con.parts (Ax.left x))) (Con.cap (Ax.left x)),.int .i64 (Con.kind (Ax.right x)),str (Con.name (Ax.right x)),.int .i64 (Con.lo (Ax.right x)),.int .i64 (Con.hi (Ax.right x)),.slice (Con.ad (Ax.right x)) (List.length (Con.parts (Ax.right x))) (Con.cap (Ax.right x)),.slice (Ax.ad x) (List.length (Ax.roles x)) (Ax.cap x),str (Ax.role x),str (Ax.a x),str (Ax.b x)] 48 (0,0))::[]))) (fun y=>[Ax.memF x,Ax.memF w]) ?_ ?_
  ·cases r8
   ·replace hr8:=znb hr8
    refine Zz 3 ?_
    exact ay_ ⟨nn6,(eB_ hnn6 hr8)⟩ zl zp zf
   replace hr8:=zeb hr8
   refine Zz 6 ?_
   refine f_ (dt_ (Ax.b x) (Ax.b w)) rfl g_ zt rfl fun _=>Zz 3 ?_
   exact ay_ ⟨(Lib.compareBytes (Ax.b x) (Ax.b w)),(dS_ hnn6 hr8)⟩ zl zp zf
  rintro ⟨nn7,hnn7⟩
  dsimp only
  refine Zz 8 ?_
  exact N_ Tryz.results77 () (V_ rfl (by rw[hnn7];exact rfl)) g_ zt
 refine Zi 10 (fun hr9=>?_) fun hr9=>?_
 ·refine Zz 17 ?_
  refine D_ (aI_ rfl rfl) rfl fun r10 hr10=>Zz 2 ?_
  refine bU_ (ι:={y:Int // y=(if n=0 then (Lib.compareInt (List.length (Ax.roles x):Int) (List.length (Ax.roles w):Int)) else n)}) (fun y=>[(2,zp_ b1 0),(3,zp_ b2 0),(4,.int .i64 0),(6,.int .i64 (i:Int)),(5,.int .i64 y.1)]) (fun y=>((b2,.cells #[.int .i64 (Ax.kind w),.bool (Ax.opn w),.int .i64 (Con.kind (Ax.left w)),str (Con.name (Ax.left w)),.int .i64 (Con.lo (Ax.left w)),.int .i64 (Con.hi (Ax.left w)),.slice (Con.ad (Ax.left w)) (List.length (Con.parts (Ax.left w))) (Con.cap (Ax.left w)),.int .i64 (Con.kind (Ax.right w)),str (Con.name (Ax.right w)),.int .i64 (Con.lo (Ax.right w)),.int .i64 (Con.hi (Ax.right w)),.slice (Con.ad (Ax.right w)) (List.length (Con.parts (Ax.right w))) (Con.cap (Ax.right w)),.slice (Ax.ad w) (List.length (Ax.roles w)) (Ax.cap w),str (Ax.role w),str (Ax.a w),str (Ax.b w)] 48 (0,0))::((b1,.cells #[.int .i64 (Ax.kind x),.bool (Ax.opn x),.int .i64 (Con.kind (Ax.left x)),str (Con.name (Ax.left x)),.int .i64 (Con.lo (Ax.left x)),.int .i64 (Con.hi (Ax.left x)),.slice (Con.ad (Ax.left x)) (List.length (Con.parts (Ax.left x))) (Con.cap (Ax.left x)),.int .i64 (Con.kind (Ax.right x)),str (Con.name (Ax.right x)),.int .i64 (Con.lo (Ax.right x)),.int .i64 (Con.hi (Ax.right x)),.slice (Con.ad (Ax.right x)) (List.length (Con.parts (Ax.right x))) (Con.cap (Ax.right x)),.slice (Ax.ad x) (List.length (Ax.roles x)) (Ax.cap x),str (Ax.role x),str (Ax.a x),str (Ax.b x)] 48 (0,0))::[]))) (fun y=>[Ax.memF x,Ax.memF w]) ?_ ?_
  ·cases r10
   ·replace hr10:=znb hr10
    refine Zz 3 ?_
    exact ay_ ⟨n,(by rw[if_neg hr10])⟩ zl zp zf
   replace hr10:=zeb hr10
   refine Zz 8 ?_
   refine f_ (eg_ (List.length (Ax.roles x):Int) (List.length (Ax.roles w):Int)) rfl g_ zt rfl fun _=>Zz 3 ?_
   exact ay_ ⟨(Lib.compareInt (List.length (Ax.roles x):Int) (List.length (Ax.roles w):Int)),(by rw[if_pos hr10])⟩ zl zp zf
  rintro ⟨nn8,hnn8⟩
  dsimp only
  have hor8:=gH_.or (o:=(Lib.compareInt (List.length (Ax.roles x):Int) (List.length (Ax.roles w):Int))) hlx hnn3 (fun hn hv ha=>lX_ ha.1 ha.2 (by first|(left;omega)|(right;omega)))
  rw[← hnn8]at hor8
  refine Zz 5 ?_
  refine D_ (aI_ rfl rfl) rfl fun r11 hr11=>Zz 2 ?_
  refine bU_ (ι:={y:Int // y=orF ((((([(Lib.compareInt (Ax.wgt x) (Ax.wgt w))]++[(Lib.compareInt (Ax.kind x) (Ax.kind w))])++[(Con.cmp (Ax.left x) (Ax.left w))])++[(Con.cmp (Ax.right x) (Ax.right w))])++[ed_ (Ax.roles x) (Ax.roles w)])++[(Lib.compareBytes (Ax.role x) (Ax.role w))])}) (fun y=>[(2,zp_ b1 0),(3,zp_ b2 0),(4,.int .i64 0),(6,.int .i64 (i:Int)),(5,.int .i64 y.1)]) (fun y=>((b2,.cells #[.int .i64 (Ax.kind w),.bool (Ax.opn w),.int .i64 (Con.kind (Ax.left w)),str (Con.name (Ax.left w)),.int .i64 (Con.lo (Ax.left w)),.int .i64 (Con.hi (Ax.left w)),.slice (Con.ad (Ax.left w)) (List.length (Con.parts (Ax.left w))) (Con.cap (Ax.left w)),.int .i64 (Con.kind (Ax.right w)),str (Con.name (Ax.right w)),.int .i64 (Con.lo (Ax.right w)),.int .i64 (Con.hi (Ax.right w)),.slice (Con.ad (Ax.right w)) (List.length (Con.parts (Ax.right w))) (Con.cap (Ax.right w)),.slice (Ax.ad w) (List.length (Ax.roles w)) (Ax.cap w),str (Ax.role w),str (Ax.a w),str (Ax.b w)] 48 (0,0))::((b1,.cells #[.int .i64 (Ax.kind x),.bool (Ax.opn x),.int .i64 (Con.kind (Ax.left x)),str (Con.name (Ax.left x)),.int .i64 (Con.lo (Ax.left x)),.int .i64 (Con.hi (Ax.left x)),.slice (Con.ad (Ax.left x)) (List.length (Con.parts (Ax.left x))) (Con.cap (Ax.left x)),.int .i64 (Con.kind (Ax.right x)),str (Con.name (Ax.right x)),.int .i64 (Con.lo (Ax.right x)),.int .i64 (Con.hi (Ax.right x)),.slice (Con.ad (Ax.right x)) (List.length (Con.parts (Ax.right x))) (Con.cap (Ax.right x)),.slice (Ax.ad x) (List.length (Ax.roles x)) (Ax.cap x),str (Ax.role x),str (Ax.a x),str (Ax.b x)] 48 (0,0))::[]))) (fun y=>[Ax.memF x,Ax.memF w]) ?_ ?_
  ·cases r11
   ·replace hr11:=znb hr11
    refine Zz 3 ?_
    exact ay_ ⟨nn8,(eB_ hor8 hr11)⟩ zl zp zf
   replace hr11:=zeb hr11
   refine Zz 6 ?_
   refine f_ (dt_ (Ax.role x) (Ax.role w)) rfl g_ zt rfl fun _=>Zz 3 ?_
   exact ay_ ⟨(Lib.compareBytes (Ax.role x) (Ax.role w)),(dS_ hor8 hr11)⟩ zl zp zf
  rintro ⟨nn9,hnn9⟩
  dsimp only
  refine Zz 5 ?_
  refine D_ (aI_ rfl rfl) rfl fun r12 hr12=>Zz 2 ?_
  refine bU_ (ι:={y:Int // y=orF (((((([(Lib.compareInt (Ax.wgt x) (Ax.wgt w))]++[(Lib.compareInt (Ax.kind x) (Ax.kind w))])++[(Con.cmp (Ax.left x) (Ax.left w))])++[(Con.cmp (Ax.right x) (Ax.right w))])++[ed_ (Ax.roles x) (Ax.roles w)])++[(Lib.compareBytes (Ax.role x) (Ax.role w))])++[(Lib.compareBytes (Ax.a x) (Ax.a w))])}) (fun y=>[(2,zp_ b1 0),(3,zp_ b2 0),(4,.int .i64 0),(6,.int .i64 (i:Int)),(5,.int .i64 y.1)]) (fun y=>((b2,.cells #[.int .i64 (Ax.kind w),.bool (Ax.opn w),.int .i64 (Con.kind (Ax.left w)),str (Con.name (Ax.left w)),.int .i64 (Con.lo (Ax.left w)),.int .i64 (Con.hi (Ax.left w)),.slice (Con.ad (Ax.left w)) (List.length (Con.parts (Ax.left w))) (Con.cap (Ax.left w)),.int .i64 (Con.kind (Ax.right w)),str (Con.name (Ax.right w)),.int .i64 (Con.lo (Ax.right w)),.int .i64 (Con.hi (Ax.right w)),.slice (Con.ad (Ax.right w)) (List.length (Con.parts (Ax.right w))) (Con.cap (Ax.right w)),.slice (Ax.ad w) (List.length (Ax.roles w)) (Ax.cap w),str (Ax.role w),str (Ax.a w),str (Ax.b w)] 48 (0,0))::((b1,.cells #[.int .i64 (Ax.kind x),.bool (Ax.opn x),.int .i64 (Con.kind (Ax.left x)),str (Con.name (Ax.left x)),.int .i64 (Con.lo (Ax.left x)),.int .i64 (Con.hi (Ax.left x)),.slice (Con.ad (Ax.left x)) (List.length (Con.parts (Ax.left x))) (Con.cap (Ax.left x)),.int .i64 (Con.kind (Ax.right x)),str (Con.name (Ax.right x)),.int .i64 (Con.lo (Ax.right x)),.int .i64 (Con.hi (Ax.right x)),.slice (Con.ad (Ax.right x)) (List.length (Con.parts (Ax.right x))) (Con.cap (Ax.right x)),.slice (Ax.ad x) (List.length (Ax.roles x)) (Ax.cap x),str (Ax.role x),str (Ax.a x),str (Ax.b x)] 48 (0,0))::[]))) (fun y=>[Ax.memF x,Ax.memF w]) ?_ ?_
  ·cases r12
   ·replace hr12:=znb hr12
    refine Zz 3 ?_
    exact ay_ ⟨nn9,(eB_ hnn9 hr12)⟩ zl zp zf
   replace hr12:=zeb hr12
   refine Zz 6 ?_
   refine f_ (dt_ (Ax.a x) (Ax.a w)) rfl g_ zt rfl fun _=>Zz 3 ?_
   exact ay_ ⟨(Lib.compareBytes (Ax.a x) (Ax.a w)),(dS_ hnn9 hr12)⟩ zl zp zf
  rintro ⟨nn10,hnn10⟩
  dsimp only
  refine Zz 5 ?_
  refine D_ (aI_ rfl rfl) rfl fun r13 hr13=>Zz 2 ?_
  refine bU_ (ι:={y:Int // y=orF ((((((([(Lib.compareInt (Ax.wgt x) (Ax.wgt w))]++[(Lib.compareInt (Ax.kind x) (Ax.kind w))])++[(Con.cmp (Ax.left x) (Ax.left w))])++[(Con.cmp (Ax.right x) (Ax.right w))])++[ed_ (Ax.roles x) (Ax.roles w)])++[(Lib.compareBytes (Ax.role x) (Ax.role w))])++[(Lib.compareBytes (Ax.a x) (Ax.a w))])++[(Lib.compareBytes (Ax.b x) (Ax.b w))])}) (fun y=>[(2,zp_ b1 0),(3,zp_ b2 0),(4,.int .i64 0),(6,.int .i64 (i:Int)),(5,.int .i64 y.1)]) (fun y=>((b2,.cells #[.int .i64 (Ax.kind w),.bool (Ax.opn w),.int .i64 (Con.kind (Ax.left w)),str (Con.name (Ax.left w)),.int .i64 (Con.lo (Ax.left w)),.int .i64 (Con.hi (Ax.left w)),.slice (Con.ad (Ax.left w)) (List.length (Con.parts (Ax.left w))) (Con.cap (Ax.left w)),.int .i64 (Con.kind (Ax.right w)),str (Con.name (Ax.right w)),.int .i64 (Con.lo (Ax.right w)),.int .i64 (Con.hi (Ax.right w)),.slice (Con.ad (Ax.right w)) (List.length (Con.parts (Ax.right w))) (Con.cap (Ax.right w)),.slice (Ax.ad w) (List.length (Ax.roles w)) (Ax.cap w),str (Ax.role w),str (Ax.a w),str (Ax.b w)] 48 (0,0))::((b1,.cells #[.int .i64 (Ax.kind x),.bool (Ax.opn x),.int .i64 (Con.kind (Ax.left x)),str (Con.name (Ax.left x)),.int .i64 (Con.lo (Ax.left x)),.int .i64 (Con.hi (Ax.left x)),.slice (Con.ad (Ax.left x)) (List.length (Con.parts (Ax.left x))) (Con.cap (Ax.left x)),.int .i64 (Con.kind (Ax.right x)),str (Con.name (Ax.right x)),.int .i64 (Con.lo (Ax.right x)),.int .i64 (Con.hi (Ax.right x)),.slice (Con.ad (Ax.right x)) (List.length (Con.parts (Ax.right x))) (Con.cap (Ax.right x)),.slice (Ax.ad x) (List.length (Ax.roles x)) (Ax.cap x),str (Ax.role x),str (Ax.a x),str (Ax.b x)] 48 (0,0))::[]))) (fun y=>[Ax.memF x,Ax.memF w]) ?_ ?_
  ·cases r13
   ·replace hr13:=znb hr13
    refine Zz 3 ?_
    exact ay_ ⟨nn10,(eB_ hnn10 hr13)⟩ zl zp zf
   replace hr13:=zeb hr13
   refine Zz 6 ?_
   refine f_ (dt_ (Ax.b x) (Ax.b w)) rfl g_ zt rfl fun _=>Zz 3 ?_
   exact ay_ ⟨(Lib.compareBytes (Ax.b x) (Ax.b w)),(dS_ hnn10 hr13)⟩ zl zp zf
  rintro ⟨nn11,hnn11⟩
  dsimp only
  refine Zz 8 ?_
  exact N_ Tryz.results77 () (V_ rfl (by rw[hnn11];exact rfl)) g_ zt
 refine Zi 11 (fun hr14=>?_) fun hr14=>?_
 ·refine Zz 10 ?_
  refine D_ (aI_ rfl rfl) rfl fun r15 hr15=>Zz 2 ?_
  refine bU_ (ι:={y:Int // y=(if n=0 then (Lib.compareInt (List.length (Ax.roles x):Int) (List.length (Ax.roles w):Int)) else n)}) (fun y=>[(2,zp_ b1 0),(3,zp_ b2 0),(4,.int .i64 0),(6,.int .i64 (i:Int)),(5,.int .i64 y.1)]) (fun y=>((b2,.cells #[.int .i64 (Ax.kind w),.bool (Ax.opn w),.int .i64 (Con.kind (Ax.left w)),str (Con.name (Ax.left w)),.int .i64 (Con.lo (Ax.left w)),.int .i64 (Con.hi (Ax.left w)),.slice (Con.ad (Ax.left w)) (List.length (Con.parts (Ax.left w))) (Con.cap (Ax.left w)),.int .i64 (Con.kind (Ax.right w)),str (Con.name (Ax.right w)),.int .i64 (Con.lo (Ax.right w)),.int .i64 (Con.hi (Ax.right w)),.slice (Con.ad (Ax.right w)) (List.length (Con.parts (Ax.right w))) (Con.cap (Ax.right w)),.slice (Ax.ad w) (List.length (Ax.roles w)) (Ax.cap w),str (Ax.role w),str (Ax.a w),str (Ax.b w)] 48 (0,0))::((b1,.cells #[.int .i64 (Ax.kind x),.bool (Ax.opn x),.int .i64 (Con.kind (Ax.left x)),str (Con.name (Ax.left x)),.int .i64 (Con.lo (Ax.left x)),.int .i64 (Con.hi (Ax.left x)),.slice (Con.ad (Ax.left x)) (List.length (Con.parts (Ax.left x))) (Con.cap (Ax.left x)),.int .i64 (Con.kind (Ax.right x)),str (Con.name (Ax.right x)),.int .i64 (Con.lo (Ax.right x)),.int .i64 (Con.hi (Ax.right x)),.slice (Con.ad (Ax.right x)) (List.length (Con.parts (Ax.right x))) (Con.cap (Ax.right x)),.slice (Ax.ad x) (List.length (Ax.roles x)) (Ax.cap x),str (Ax.role x),str (Ax.a x),str (Ax.b x)] 48 (0,0))::[]))) (fun y=>[Ax.memF x,Ax.memF w]) ?_ ?_
  ·cases r15
   ·replace hr15:=znb hr15
    refine Zz 3 ?_
    exact ay_ ⟨n,(by rw[if_neg hr15])⟩ zl zp zf
   replace hr15:=zeb hr15
   refine Zz 8 ?_
   refine f_ (eg_ (List.length (Ax.roles x):Int) (List.length (Ax.roles w):Int)) rfl g_ zt rfl fun _=>Zz 3 ?_
   exact ay_ ⟨(Lib.compareInt (List.length (Ax.roles x):Int) (List.length (Ax.roles w):Int)),(by rw[if_pos hr15])⟩ zl zp zf
  rintro ⟨nn12,hnn12⟩
  dsimp only
  have hor12:=gH_.or (o:=(Lib.compareInt (List.length (Ax.roles x):Int) (List.length (Ax.roles w):Int))) hlx hnn3 (fun hn hv ha=>lX_ ha.1 ha.2 (by first|(left;omega)|(right;omega)))
  rw[← hnn12]at hor12
  refine Zz 5 ?_
  refine D_ (aI_ rfl rfl) rfl fun r16 hr16=>Zz 2 ?_
  refine bU_ (ι:={y:Int // y=orF ((((([(Lib.compareInt (Ax.wgt x) (Ax.wgt w))]++[(Lib.compareInt (Ax.kind x) (Ax.kind w))])++[(Con.cmp (Ax.left x) (Ax.left w))])++[(Con.cmp (Ax.right x) (Ax.right w))])++[ed_ (Ax.roles x) (Ax.roles w)])++[(Lib.compareBytes (Ax.role x) (Ax.role w))])}) (fun y=>[(2,zp_ b1 0),(3,zp_ b2 0),(4,.int .i64 0),(6,.int .i64 (i:Int)),(5,.int .i64 y.1)]) (fun y=>((b2,.cells #[.int .i64 (Ax.kind w),.bool (Ax.opn w),.int .i64 (Con.kind (Ax.left w)),str (Con.name (Ax.left w)),.int .i64 (Con.lo (Ax.left w)),.int .i64 (Con.hi (Ax.left w)),.slice (Con.ad (Ax.left w)) (List.length (Con.parts (Ax.left w))) (Con.cap (Ax.left w)),.int .i64 (Con.kind (Ax.right w)),str (Con.name (Ax.right w)),.int .i64 (Con.lo (Ax.right w)),.int .i64 (Con.hi (Ax.right w)),.slice (Con.ad (Ax.right w)) (List.length (Con.parts (Ax.right w))) (Con.cap (Ax.right w)),.slice (Ax.ad w) (List.length (Ax.roles w)) (Ax.cap w),str (Ax.role w),str (Ax.a w),str (Ax.b w)] 48 (0,0))::((b1,.cells #[.int .i64 (Ax.kind x),.bool (Ax.opn x),.int .i64 (Con.kind (Ax.left x)),str (Con.name (Ax.left x)),.int .i64 (Con.lo (Ax.left x)),.int .i64 (Con.hi (Ax.left x)),.slice (Con.ad (Ax.left x)) (List.length (Con.parts (Ax.left x))) (Con.cap (Ax.left x)),.int .i64 (Con.kind (Ax.right x)),str (Con.name (Ax.right x)),.int .i64 (Con.lo (Ax.right x)),.int .i64 (Con.hi (Ax.right x)),.slice (Con.ad (Ax.right x)) (List.length (Con.parts (Ax.right x))) (Con.cap (Ax.right x)),.slice (Ax.ad x) (List.length (Ax.roles x)) (Ax.cap x),str (Ax.role x),str (Ax.a x),str (Ax.b x)] 48 (0,0))::[]))) (fun y=>[Ax.memF x,Ax.memF w]) ?_ ?_
  ·cases r16
   ·replace hr16:=znb hr16
    refine Zz 3 ?_
    exact ay_ ⟨nn12,(eB_ hor12 hr16)⟩ zl zp zf
   replace hr16:=zeb hr16
   refine Zz 6 ?_
   refine f_ (dt_ (Ax.role x) (Ax.role w)) rfl g_ zt rfl fun _=>Zz 3 ?_
   exact ay_ ⟨(Lib.compareBytes (Ax.role x) (Ax.role w)),(dS_ hor12 hr16)⟩ zl zp zf
  rintro ⟨nn13,hnn13⟩
  dsimp only
  refine Zz 5 ?_
  refine D_ (aI_ rfl rfl) rfl fun r17 hr17=>Zz 2 ?_
  refine bU_ (ι:={y:Int // y=orF (((((([(Lib.compareInt (Ax.wgt x) (Ax.wgt w))]++[(Lib.compareInt (Ax.kind x) (Ax.kind w))])++[(Con.cmp (Ax.left x) (Ax.left w))])++[(Con.cmp (Ax.right x) (Ax.right w))])++[ed_ (Ax.roles x) (Ax.roles w)])++[(Lib.compareBytes (Ax.role x) (Ax.role w))])++[(Lib.compareBytes (Ax.a x) (Ax.a w))])}) (fun y=>[(2,zp_ b1 0),(3,zp_ b2 0),(4,.int .i64 0),(6,.int .i64 (i:Int)),(5,.int .i64 y.1)]) (fun y=>((b2,.cells #[.int .i64 (Ax.kind w),.bool (Ax.opn w),.int .i64 (Con.kind (Ax.left w)),str (Con.name (Ax.left w)),.int .i64 (Con.lo (Ax.left w)),.int .i64 (Con.hi (Ax.left w)),.slice (Con.ad (Ax.left w)) (List.length (Con.parts (Ax.left w))) (Con.cap (Ax.left w)),.int .i64 (Con.kind (Ax.right w)),str (Con.name (Ax.right w)),.int .i64 (Con.lo (Ax.right w)),.int .i64 (Con.hi (Ax.right w)),.slice (Con.ad (Ax.right w)) (List.length (Con.parts (Ax.right w))) (Con.cap (Ax.right w)),.slice (Ax.ad w) (List.length (Ax.roles w)) (Ax.cap w),str (Ax.role w),str (Ax.a w),str (Ax.b w)] 48 (0,0))::((b1,.cells #[.int .i64 (Ax.kind x),.bool (Ax.opn x),.int .i64 (Con.kind (Ax.left x)),str (Con.name (Ax.left x)),.int .i64 (Con.lo (Ax.left x)),.int .i64 (Con.hi (Ax.left x)),.slice (Con.ad (Ax.left x)) (List.length (Con.parts (Ax.left x))) (Con.cap (Ax.left x)),.int .i64 (Con.kind (Ax.right x)),str (Con.name (Ax.right x)),.int .i64 (Con.lo (Ax.right x)),.int .i64 (Con.hi (Ax.right x)),.slice (Con.ad (Ax.right x)) (List.length (Con.parts (Ax.right x))) (Con.cap (Ax.right x)),.slice (Ax.ad x) (List.length (Ax.roles x)) (Ax.cap x),str (Ax.role x),str (Ax.a x),str (Ax.b x)] 48 (0,0))::[]))) (fun y=>[Ax.memF x,Ax.memF w]) ?_ ?_
  ·cases r17
   ·replace hr17:=znb hr17
    refine Zz 3 ?_
    exact ay_ ⟨nn13,(eB_ hnn13 hr17)⟩ zl zp zf
   replace hr17:=zeb hr17
   refine Zz 6 ?_
   refine f_ (dt_ (Ax.a x) (Ax.a w)) rfl g_ zt rfl fun _=>Zz 3 ?_
   exact ay_ ⟨(Lib.compareBytes (Ax.a x) (Ax.a w)),(dS_ hnn13 hr17)⟩ zl zp zf
  rintro ⟨nn14,hnn14⟩
  dsimp only
  refine Zz 5 ?_
  refine D_ (aI_ rfl rfl) rfl fun r18 hr18=>Zz 2 ?_
  refine bU_ (ι:={y:Int // y=orF ((((((([(Lib.compareInt (Ax.wgt x) (Ax.wgt w))]++[(Lib.compareInt (Ax.kind x) (Ax.kind w))])++[(Con.cmp (Ax.left x) (Ax.left w))])++[(Con.cmp (Ax.right x) (Ax.right w))])++[ed_ (Ax.roles x) (Ax.roles w)])++[(Lib.compareBytes (Ax.role x) (Ax.role w))])++[(Lib.compareBytes (Ax.a x) (Ax.a w))])++[(Lib.compareBytes (Ax.b x) (Ax.b w))])}) (fun y=>[(2,zp_ b1 0),(3,zp_ b2 0),(4,.int .i64 0),(6,.int .i64 (i:Int)),(5,.int .i64 y.1)]) (fun y=>((b2,.cells #[.int .i64 (Ax.kind w),.bool (Ax.opn w),.int .i64 (Con.kind (Ax.left w)),str (Con.name (Ax.left w)),.int .i64 (Con.lo (Ax.left w)),.int .i64 (Con.hi (Ax.left w)),.slice (Con.ad (Ax.left w)) (List.length (Con.parts (Ax.left w))) (Con.cap (Ax.left w)),.int .i64 (Con.kind (Ax.right w)),str (Con.name (Ax.right w)),.int .i64 (Con.lo (Ax.right w)),.int .i64 (Con.hi (Ax.right w)),.slice (Con.ad (Ax.right w)) (List.length (Con.parts (Ax.right w))) (Con.cap (Ax.right w)),.slice (Ax.ad w) (List.length (Ax.roles w)) (Ax.cap w),str (Ax.role w),str (Ax.a w),str (Ax.b w)] 48 (0,0))::((b1,.cells #[.int .i64 (Ax.kind x),.bool (Ax.opn x),.int .i64 (Con.kind (Ax.left x)),str (Con.name (Ax.left x)),.int .i64 (Con.lo (Ax.left x)),.int .i64 (Con.hi (Ax.left x)),.slice (Con.ad (Ax.left x)) (List.length (Con.parts (Ax.left x))) (Con.cap (Ax.left x)),.int .i64 (Con.kind (Ax.right x)),str (Con.name (Ax.right x)),.int .i64 (Con.lo (Ax.right x)),.int .i64 (Con.hi (Ax.right x)),.slice (Con.ad (Ax.right x)) (List.length (Con.parts (Ax.right x))) (Con.cap (Ax.right x)),.slice (Ax.ad x) (List.length (Ax.roles x)) (Ax.cap x),str (Ax.role x),str (Ax.a x),str (Ax.b x)] 48 (0,0))::[]))) (fun y=>[Ax.memF x,Ax.memF w]) ?_ ?_
  ·cases r18
   ·replace hr18:=znb hr18
    refine Zz 3 ?_
    exact ay_ ⟨nn14,(eB_ hnn14 hr18)⟩ zl zp zf
   replace hr18:=zeb hr18
   refine Zz 6 ?_
   refine f_ (dt_ (Ax.b x) (Ax.b w)) rfl g_ zt rfl fun _=>Zz 3 ?_
   exact ay_ ⟨(Lib.compareBytes (Ax.b x) (Ax.b w)),(dS_ hnn14 hr18)⟩ zl zp zf
  rintro ⟨nn15,hnn15⟩
  dsimp only
  refine Zz 8 ?_
  exact N_ Tryz.results77 () (V_ rfl (by rw[hnn15];exact rfl)) g_ zt
 obtain⟨hlx1,x1,hx1,hmx1⟩:=zge (show i<List.length (Ax.roles x) by omega)
 have hly1:i<List.length (Ax.roles w):=by omega
 obtain⟨y1,hy1⟩:∃ e0,(Ax.roles w)[i]? = some e0:=⟨_,List.getElem?_eq_getElem hly1⟩
 have hmy1:y1∈(Ax.roles w):=List.mem_of_getElem? hy1
 have hn0:n=0:=by assumption
 refine Zz 9 ?_
 refine z_ 2 [0,1,2,3,4,5,6,7,8,9] zk zs (Zz 3 ?_)
 refine P_ rfl (L_ n_ O_ rfl rfl (fun v _ h=>y_ (n:=1) at_ (by decide) (by exact h.1.2.2) hx1) (by omega) (by first|omega|(simp;done))) rfl ?_
 refine P_ rfl (ba_ (ad:=(Ax.ad x)) av_ rfl (fun v _ h=>by exact h.1.2.2) (u_ at_ hx1 0 _ rfl)) rfl (Zz 3 ?_)
 refine P_ rfl (L_ n_ O_ rfl rfl (fun v _ h=>y_ (n:=1) at_ (by decide) (by exact h.2.1.2.2) hy1) (by omega) (by first|omega|(simp;done))) rfl ?_
 refine P_ rfl (ba_ (ad:=(Ax.ad w)) av_ rfl (fun v _ h=>by exact h.2.1.2.2) (u_ at_ hy1 0 _ rfl)) rfl (bA_ (j_ 10 rfl zk (f_ (dt_ x1 y1) rfl g_ zt rfl fun _=>Zz 3 ?_)))
 refine z_ 0 [11] zk zs (Zz 10 ?_)
 exact J_ ⟨(i+1,(Lib.compareBytes x1 y1)),gH_.step (by rw[hn0]at hlx;exact hlx) (by rw[oh_ hx1 hy1]) (fun _=>⟨by omega,by omega⟩)⟩ (by dsimp only;omega) zl zp zh
theorem rX_ (x y:Ax) (hok1:x.ok) (hok2:y.ok) (hz1l:x.left.sz≤1000) (hz1r:x.right.sz≤1000) (hz2l:y.left.sz≤1000) (hz2r:y.right.sz≤1000):Tri Tryz.prog 34 #[Ax.val x,Ax.val y] [] [Ax.memF x,Ax.memF y] (fun _:Unit=>.bool ((x.opn==y.opn)&&(Ax.cmp x y==0))) (fun _=>[]) (fun _=>[]):=by
 refine l_ Tryz.func34 rfl rfl Tryz.ntmps34 rfl fun v0=>?_
 refine Zz 2 ?_
 refine U_ rfl rfl fun b1=>U_ rfl rfl fun b2=>Zz 9 ?_
 refine D_ (ow_ Tryz.underlying4 rfl rfl) rfl fun r1 hr1=>Zz 1 ?_
 cases r1
 ·refine Zz 9 ?_
  exact N_ Tryz.results34 () (m_ rfl (by simp only[hr1,if_true,if_false,decide_true,decide_false,Bool.and_true,Bool.and_false,Bool.true_and,Bool.false_and,Bool.or_true,Bool.or_false,Bool.true_or,Bool.false_or,Bool.not_true,Bool.not_false,ne_eq,not_true_eq_false,not_false_eq_true,true_and,and_true,false_and,and_false,true_or,or_true,false_or,or_false,ite_true,ite_false,Bool.false_eq_true])) g_ zt
 refine Zz 5 ?_
 refine f_ (tH_ x y hok1 hok2 hz1l hz1r hz2l hz2r) rfl g_ zf rfl fun _=>aF_ rfl rfl (D_ (aI_ rfl rfl) rfl fun r2 hr2=>Zz 5 ?_)
 exact N_ Tryz.results34 () (m_ rfl (by rw[← hr2];simp only[hr1,if_true,if_false,decide_true,decide_false,Bool.and_true,Bool.and_false,Bool.true_and,Bool.false_and,Bool.or_true,Bool.or_false,Bool.true_or,Bool.false_or,Bool.not_true,Bool.not_false,ne_eq,not_true_eq_false,not_false_eq_true,true_and,and_true,false_and,and_false,true_or,or_true,false_or,or_false,ite_true,ite_false,Bool.false_eq_true])) g_ zt
end Go.Proofs.YtamklbgaipakfaaGreatDoor
namespace Go.Vs
open Go Go.Sx Go.Proofs.YtamklbgaipakfaaGreatDoor
structure Rcd.ok (x:Rcd):Prop where
  a:x.a.length≤x.acap∧x.acap≤maxLen∧(x.aad=none→x.acap=0)
  r:x.r.length≤x.rcap∧x.rcap≤maxLen∧(x.rad=none→x.rcap=0)
  f:x.f.length≤x.fcap∧x.fcap≤maxLen∧(x.fad=none→x.fcap=0)
structure Rcd.sm (x:Rcd):Prop where
  a:x.a.length≤10000000000
  r:x.r.length≤10000000000
  f:x.f.length≤10000000000
def Rcd.row (x:Rcd):List Fct:=[al_ x.aad (x.a.flatMap aE_),al_ x.rad (x.r.flatMap aE_),al_ x.fad (x.f.flatMap aE_)]
structure Rcd.srt (x:Rcd):Prop where
  a:SrS x.a
  r:SrS x.r
  f:SrS x.f
structure RcA (S X:List Str):Prop where
  s:SrS X
  l:X.length≤S.length+2
  m:∀ n,n∈X↔n=[33]∨n=[42]∨n∈S
theorem RcA.nil:RcA [] [[33],[42]]:=⟨by decide,by decide,fun n=>by simp⟩
theorem RcA.step {S X:List Str} {s:Str} (h:RcA S X) (hs:s≠[]):RcA (S++[s]) (cf_ X s):=by
 obtain⟨h1,_,_,h4⟩:=gd_ h.s hs
 refine⟨h1,?_,fun n=>?_⟩
 ·have:=h.l
  by_cases q:s∈X
  ·rw[la_ h.s q,List.length_append];omega
  rw[iF_ hs q,List.length_append,List.length_singleton];omega
 rw[h4,h.m,List.mem_append,List.mem_singleton]
 constructor
 ·rintro ((q|q|q)|q)
  ·exact .inl q
  ·exact .inr (.inl q)
  ·exact .inr (.inr (.inl q))
  exact .inr (.inr (.inr q))
 rintro (q|q|q|q)
 ·exact .inl (.inl q)
 ·exact .inl (.inr (.inl q))
 ·exact .inl (.inr (.inr q))
 exact .inr q
theorem RcA.inv {p:List Pc} {S X:List Str} (h:RcA S X):RdI p S X [] []:=by
 refine⟨h.s,.nil,.nil,fun t ht=>?_,fun t ht=>?_⟩
 ·obtain⟨k,n⟩:=t
  rcases ht with⟨hk,hn⟩|⟨_,hn⟩|⟨_,hn⟩
  ·dsimp only at hk hn
   subst hk
   refine .base ?_
   unfold dv_
   rcases (h.m n).1 hn with rfl|rfl|q
   ·simp
   ·simp
   exact List.mem_append_right _ (List.mem_map.2 ⟨n,q,rfl⟩)
  ·cases hn
  cases hn
 unfold dv_ at ht
 rcases List.mem_append.1 ht with q|q
 ·rcases List.mem_cons.1 q with rfl|q
  ·exact .inl ⟨rfl,(h.m _).2 (.inr (.inl rfl))⟩
  rw[List.mem_singleton]at q
  subst q
  exact .inl ⟨rfl,(h.m _).2 (.inl rfl)⟩
 obtain⟨n,hn,rfl⟩:=List.mem_map.1 q
 exact .inl ⟨rfl,(h.m _).2 (.inr (.inr hn))⟩
structure Rc1 (p:List Pc) (S:List Str) (x:Rcd):Prop where
  m:∀ t,ke_ x.a x.r x.f t↔Rch p S t
  s:x.srt
  ok:x.ok
  sm:x.sm
theorem RdR.fin {p:List Pc} {S a r f:List Str} {n:Int} (h:RdR p S n p.length a r f) (h0:¬ n<((a.length+r.length+f.length:Nat):Int)):∀ t,ke_ a r f t↔Rch p S t:=by
  have:=h.le
  have e:n=((a.length+r.length+f.length:Nat):Int):=by omega
  subst e
  exact h.done
theorem RdI.sm {p:List Pc} {S:List Str} {x:Rcd} (h:RdI p S x.a x.r x.f) (hp:p.length≤100000000) (hS:S.length≤100000000):x.sm∧x.a.length+x.r.length+x.f.length≤300000002:=by
  have h1:=h.len
  have h2:=fU_ p S
  exact⟨⟨by omega,by omega,by omega⟩,by omega⟩
def MtI (a:Ax) (x:Rcd) (p:List Pc) (i:Nat) (k:Nat) (b:Bool):Prop:=b=true↔gv_ a∨∃ (j:Nat) (q:Pc),j<k∧p[j]? = some q∧q.frm=(i:Int)∧nq_ x.a x.r x.f q=true
theorem MtI.zero {a:Ax} {x:Rcd} {p:List Pc} {i:Nat} {b:Bool} (h:b=true↔gv_ a):MtI a x p i 0 b:=by
  unfold MtI
  rw[h]
  exact⟨.inl,fun q=>q.elim id fun⟨_,_,q,_⟩=>absurd q (Nat.not_lt_zero _)⟩
theorem MtI.step {a:Ax} {x:Rcd} {p:List Pc} {i k:Nat} {q:Pc} {c:Bool} (h:MtI a x p i k false) (hq:p[k]? = some q) (hc:c=true↔q.frm=(i:Int)∧nq_ x.a x.r x.f q=true):MtI a x p i (k+1) c:=by
 have h0:¬ (gv_ a∨∃ (j:Nat) (q:Pc),j<k∧p[j]? = some q∧q.frm=(i:Int)∧nq_ x.a x.r x.f q=true):=fun z=>by have:=h.2 z;cases this
 unfold MtI
 rw[hc]
 constructor
 ·exact fun z=>.inr ⟨k,q,by omega,hq,z⟩
 rintro (z|⟨j,y,hj,hy,z⟩)
 ·exact absurd (.inl z) h0
 rcases Nat.lt_or_ge j k with g|g
 ·exact absurd (.inr ⟨j,y,g,hy,z⟩) h0
 obtain rfl:j=k:=by omega
 rw[hq,Option.some.injEq]at hy
 subst hy
 exact z
theorem Rc1.usb {p:List Pc} {S:List Str} {x:Rcd} (h:Rc1 p S x) (q:Pc):nq_ x.a x.r x.f q=true↔Usb p S q:=by
  unfold nq_ Usb
  rw[decide_eq_true_iff]
  exact⟨fun z u hu=>(h.m u).1 (z u hu),fun z u hu=>(h.m u).2 (z u hu)⟩
theorem MtI.yes {l:List Ax} {a:Ax} {x:Rcd} {p:List Pc} {S:List Str} {i k:Nat} (h:MtI a x p i k true) (hx:Rc1 p S x) (ha:l[i]? = some a):Mat l p S i:=by
 rcases h.1 rfl with z|⟨j,q,_,hq,hf,hu⟩
 ·exact jn_ ha z
 exact .inr ⟨q,List.mem_of_getElem? hq,hf,(hx.usb q).1 hu⟩
theorem MtI.no {l:List Ax} {a:Ax} {x:Rcd} {p:List Pc} {S:List Str} {i k:Nat} (h:MtI a x p i k false) (hx:Rc1 p S x) (ha:l[i]? = some a) (hk:p.length≤k):¬ Mat l p S i:=by
 have h0:¬ (gv_ a∨∃ (j:Nat) (q:Pc),j<k∧p[j]? = some q∧q.frm=(i:Int)∧nq_ x.a x.r x.f q=true):=fun z=>by have:=h.2 z;cases this
 rintro (⟨b,hb,hkb⟩|⟨q,hq,hf,hu⟩)
 ·have:l[i]? = some b:=by simpa using hb
  rw[ha,Option.some.injEq]at this
  subst this
  exact h0 (.inl hkb)
 obtain⟨j,hj⟩:=List.getElem?_of_mem hq
 have:=(List.getElem?_eq_some_iff.1 hj).1
 exact h0 (.inr ⟨j,q,by omega,hj,hf,(hx.usb q).2 hu⟩)
end Go.Vs
namespace Go.Proofs.YtamklbgaipakfaaGreatDoor
open Go Go.Sx Go.Proofs
attribute [local irreducible] Code.wp wpList wpAnyH
open Go.Vs
theorem jL_:iv_ Tryz.prog 48 [(0,1),(1,1),(2,5),(7,5),(12,1),(13,1),(14,1),(15,1)] [.int .i64 0,.bool false,.int .i64 0,str [],.int .i64 0,.int .i64 0,.slice none 0 0,.int .i64 0,str [],.int .i64 0,.int .i64 0,.slice none 0 0,.slice none 0 0,str [],str [],str []]:=⟨_,bc_,bF_,fun w=>by simp[ao_,Tryz.sizeOf4,O_,gR_,A_]⟩
theorem eU_ (s:Str):Fn0 Tryz.prog 31 #[str s] (Con.val (Con.mk 3 s 0 0 none 0 [])):=by
  refine l_ Tryz.func31 rfl rfl Tryz.ntmps31 rfl fun v0=>?_
  refine Zz 2 ?_
  refine K_ bE_ rfl fun b1=>Zz 5 ?_
  refine d_ (w_ nt_ rfl rfl) rfl (x_ 0 A_ rfl rfl rfl rfl rfl rfl (Zz 3 ?_))
  exact fE_ () (fun aa v h1 h2=>dV_ (us:=Con.cells (Con.mk 3 s 0 0 none 0 [])) 0 Tryz.results31 aD_ A_ rfl rfl rfl aa v h1 h2) g_ (fun v _ h=>trivial)
theorem hi_ (a b:Str):Fn0 Tryz.prog 32 #[str a,str b] (Ax.val (Ax.mk 1 false (Con.mk 3 a 0 0 none 0 []) (Con.mk 3 b 0 0 none 0 []) none 0 [] [] [] [])):=by
  refine l_ Tryz.func32 rfl rfl Tryz.ntmps32 rfl fun v0=>?_
  refine Zz 2 ?_
  refine K_ bc_ rfl fun b1=>Zz 5 ?_
  refine f_ (eU_ a) rfl g_ zt rfl fun _=>Zz 1 ?_
  refine f_ (eU_ b) rfl g_ zt rfl fun _=>d_ (w_ jL_ rfl rfl) rfl (x_ 0 S_ rfl rfl rfl rfl rfl rfl (Zz 3 ?_))
  exact fE_ () (fun aa v h1 h2=>dV_ (us:=Ax.cells (Ax.mk 1 false (Con.mk 3 a 0 0 none 0 []) (Con.mk 3 b 0 0 none 0 []) none 0 [] [] [] [])) 0 Tryz.results32 bI_ S_ rfl rfl rfl aa v h1 h2) g_ (fun v _ h=>trivial)
theorem vL_ (ls:List Ax) (lad:Option Addr) (lcap:Nat) (hcap:ls.length≤lcap∧lcap≤2199023255488) (hok:∀ x∈ls,x.ok):Tri Tryz.prog 9 #[.slice lad (List.length ls) lcap] [] [dw_ lad ls] (fun b:{b:Bool // b=true→ls.length≤12∧∀ x∈ls,Ax.Few x}=>.bool b.1) (fun _=>[]) (fun _=>[]):=by
  refine l_ Tryz.func9 rfl rfl Tryz.ntmps9 rfl fun v0=>?_
  refine Zz 8 ?_
  refine f_ (nY_ ls lad lcap 12 hcap hok) rfl g_ zf rfl fun⟨r,hr⟩=>?_
  dsimp only
  refine Zz 4 ?_
  exact N_ Tryz.results9 ⟨r,fun h=>⟨by have:=(hr h).1;omega,(hr h).2⟩⟩ rfl (.refl _) zt
theorem rV_ (S:List Str) (sad:Option Addr) (scap:Nat) (hSb:S.length≤8796093021952) (hSl:∀ s∈S,s.length≤140737488351232):Tri Tryz.prog 10 #[.slice sad (List.length S) scap] [] [al_ sad (List.flatMap aE_ S)] (fun b:{b:Bool // b=true→S.length≤8∧∀ s∈S,s.length≤300}=>.bool b.1) (fun _=>[]) (fun _=>[]):=by
 refine l_ Tryz.func10 rfl rfl Tryz.ntmps10 rfl fun v0=>?_
 refine Zi 10 (fun hr1=>?_) fun hr1=>?_
 ·refine Zz 12 ?_
  refine ai_ (ι:={y:Nat // y≤List.length S∧kk_ S y (fun _ s=>List.length s≤300)}) (fun y=>[(0,.slice sad (List.length S) scap),(2,.bool false),(3,.int .i64 (y.1:Int))]) (fun y=>([])) (fun y=>[al_ sad (List.flatMap aE_ S)]) (fun y=>List.length S - y.1) ⟨(0:Nat),by simp,kk_.zero⟩ zl g_ zh ?_
  rintro ⟨i,hi_i,hva⟩
  dsimp only at hi_i hva ⊢
  refine Zi 6 (fun hr2=>?_) fun hr2=>?_
  ·refine Zz 11 ?_
   exact N_ Tryz.results10 ⟨true,fun _=>⟨by omega,fun s hs=>by have:=hva.all (by assumption) s hs;omega⟩⟩ rfl g_ zt
  have hls1:i<List.length S:=by omega
  obtain⟨s1,hs1⟩:∃ e0,S[i]? = some e0:=⟨_,List.getElem?_eq_getElem hls1⟩
  have hms1:s1∈S:=List.mem_of_getElem? hs1
  have hsl:=hSl _ hms1
  refine Zz 13 ?_
  refine d_ (do_ T_ rfl) rfl ?_
  refine Zi 0 (fun hr3=>?_) fun hr3=>?_
  ·refine Zz 11 ?_
   exact J_ ⟨i+1,hls1,hva.step hs1 (by omega)⟩ (by dsimp only;omega) zl g_ zh
  refine Zz 9 ?_
  exact N_ Tryz.results10 ⟨false,fun h=>by cases h⟩ rfl g_ zt
 refine Zz 9 ?_
 exact N_ Tryz.results10 ⟨false,fun h=>by cases h⟩ rfl g_ zt
theorem ev_ (ls:List Ax) (lad:Option Addr) (lcap:Nat) (hcap:ls.length≤lcap∧lcap≤2199023255488) (hok:∀ x∈ls,x.ok) (hll:ls.length≤100000000) (S:List Str) (sad:Option Addr) (scap:Nat) (hS:S.length≤100000000) (hSl:∀ s∈S,s.length≤100000) (p:List Pc) (er:Int) (hPL:az_ ls=(p,er)) (hp:p.length≤100000000) (want:List Int) (wad:Option Addr) (wcap:Nat) (hw:want.length≤100000000) (hR:gC_ ls p er S=(want,0)):Tri Tryz.prog 33 #[.slice lad (List.length ls) lcap,.slice sad (List.length S) scap,.slice wad (List.length want) wcap] [] [dw_ lad ls,cq_,al_ sad (List.flatMap aE_ S),al_ wad (List.flatMap ew_ want)] (fun _:Unit=>.bool true) (fun _=>[]) (fun _=>[]):=by
 refine l_ Tryz.func33 rfl rfl Tryz.ntmps33 rfl fun v0=>?_
 refine Zz 9 ?_
 refine f_ (oo_ ls lad lcap hcap hok hll S sad scap hS hSl p er hPL hp want 0 hR) rfl g_ zf rfl fun⟨⟨qad,qcap⟩,hq1,hq2,hq3⟩=>?_
 dsimp only
 refine Zz 11 ?_
 refine d_ (aY_ (bS_ rfl rfl) (show _=Value.bool false from congrArg Value.bool (by decide))) rfl (Zi 10 (fun hr1=>?_) fun hr1=>?_)
 ·refine Zz 13 ?_
  refine ai_ (ι:={y:Nat // y≤List.length want}) (fun y=>[(2,.slice wad (List.length want) wcap),(6,.bool false),(7,.slice qad (List.length want) qcap),(9,.int .i64 (y.1:Int))]) (fun y=>([])) (fun y=>[al_ qad (List.flatMap ew_ want),dw_ lad ls,cq_,al_ sad (List.flatMap aE_ S),al_ wad (List.flatMap ew_ want)]) (fun y=>List.length want - y.1) ⟨(0:Nat),by simp⟩ zl g_ zh ?_
  rintro ⟨i,hi_i⟩
  dsimp only at hi_i ⊢
  refine Zi 6 (fun hr2=>?_) fun hr2=>?_
  ·refine Zz 11 ?_
   exact N_ Tryz.results33 () rfl g_ zt
  obtain⟨hlx1,x1,hx1,hmx1⟩:=zge (show i<List.length want by omega)
  refine Zz 9 ?_
  refine z_ 0 [0,1,2,3,4,5,6,7,8] zk zs (Zi 8 (fun hr3=>?_) fun hr3=>?_)
  ·refine Zz 12 ?_
   exact J_ ⟨i+1,hlx1⟩ (by dsimp only;omega) zl g_ zh
  exact absurd rfl hr3
 exact absurd rfl hr1
end Go.Proofs.YtamklbgaipakfaaGreatDoor
namespace Go.Proofs.YtamklbgaipakfaaGreatDoor
open Go Go.Sx Go.Proofs
attribute [local irreducible] Code.wp wpList wpAnyH
open Go.Vs
theorem qt_ {l:List Ax} {p:List Pc} {er:Int} (h12:l.length≤12) (h:az_ l=(p,er)):p.length≤16384:=by
 by_cases hb:dd_ l=0
 ·have hc:=hW_ hb
  rw[iL_ (by omega) hc]at h
  obtain⟨rfl,_⟩:=Prod.mk.inj h
  have:=jv_ 0 l hc
  omega
 rw[kr_ (by omega) hb]at h
 rw[← (Prod.mk.inj h).1]
 simp
theorem mg_.len {p:List Pc} {er:Int} {v:Bool} {S X:List Str} {e:Int} (h:mg_ p er v S X e):X.length≤2*p.length+S.length+2:=by
 rcases h with⟨_,rfl,_⟩|⟨_,_,rfl,_⟩|⟨_,_,_,hs,hm⟩
 ·simp
 ·simp
 have h1:(X.map fun n=>(⟨1,n⟩:Thg)).Nodup:=by
   unfold List.Nodup
   rw[List.pairwise_map]
   exact List.Pairwise.imp (fun {a b} hab e=>by have:=(Thg.mk.inj e).2;subst this;exact gM_ _ hab) hs
 have h2:=eG_ _ (iY_ p S) h1 fun t ht=>by
   obtain⟨n,hn,rfl⟩:=List.mem_map.1 ht
   exact ((hm n).1 hn).univ
 have h3:=fU_ p S
 rw[List.length_map]at h2
 omega
end Go.Proofs.YtamklbgaipakfaaGreatDoor
namespace Go.Proofs.YtamklbgaipakfaaGreatDoor
open Go Go.Sx Go.Proofs
attribute [local irreducible] Code.wp wpList wpAnyH
open Go.Vs
theorem tP_ {a b:Ax} (h:Ax.cmp a b=-1):∀ (i:Nat) x y,[a,b][i]? = some x→[a,b][i+1]? = some y→Ax.cmp x y=-1:=by
  intro i x y h1 h2
  cases i with
  | zero =>
    simp only[List.getElem?_cons_zero,Nat.zero_add,List.getElem?_cons_succ,Option.some.injEq]at h1 h2
    subst h1;subst h2;exact h
  | succ i=>simp at h2
theorem ie_ {S:List Str} (h:(S.all fun s=>Nat.ble s.length 100000)=true):∀ s∈S,s.length≤100000:=fun s hs=>Nat.le_of_ble_eq_true (List.all_eq_true.1 h s hs)
theorem tA_:Tri Tryz.prog 8 #[] [] [cq_] (fun _:Unit=>.bool true) (fun _=>[]) (fun _=>[]):=by
  refine l_ Tryz.func8 rfl rfl Tryz.ntmps8 rfl fun v0=>?_
  refine Zz 7 ?_
  refine f_ (eU_ [66]) rfl g_ zt rfl fun _=>E_ ab_ A_ bE_ rfl rfl rfl rfl rfl rfl fun b1=>?_
  refine ap_ (List.flatMap Con.cells [(Con.mk 3 [66] 0 0 none 0 [])]) e_ rfl ?_
  refine d_ (w_ nt_ rfl rfl) rfl (K_ bE_ rfl fun b2=>x_ 0 A_ rfl rfl rfl rfl rfl rfl (Zz 4 ?_))
  refine z_ 6 [1] zk zs (Zz 2 ?_)
  refine j_ 0 rfl zk (f_ (eU_ [65]) rfl g_ zt rfl fun _=>Zz 3 ?_)
  refine z_ 4 [2] zk zs (P_ rfl (w_ jL_ rfl rfl) rfl (bA_ (j_ 3 rfl zk (f_ (hi_ [66] [67]) rfl g_ zt rfl fun _=>Zz 3 ?_))))
  refine j_ 4 rfl zk (f_ (hi_ [68] [65]) rfl g_ zt rfl fun _=>Zz 3 ?_)
  refine j_ 5 rfl zk (E_ Q_ S_ bc_ rfl rfl rfl rfl rfl rfl fun b3=>?_)
  refine ap_ (List.flatMap Ax.cells [(Ax.mk 1 false (Con.mk 3 [65] 0 0 none 0 []) (Con.mk 6 [114] 0 0 (some ⟨b1,0,none⟩) 1 [(Con.mk 3 [66] 0 0 none 0 [])]) none 0 [] [] [] []),(Ax.mk 1 false (Con.mk 3 [66] 0 0 none 0 []) (Con.mk 3 [67] 0 0 none 0 []) none 0 [] [] [] []),(Ax.mk 1 false (Con.mk 3 [68] 0 0 none 0 []) (Con.mk 3 [65] 0 0 none 0 []) none 0 [] [] [] [])]) e_ rfl ?_
  refine Zz 3 ?_
  refine z_ 0 [6] zk zs (Zz 8 ?_)
  refine E_ n_ O_ an_ rfl rfl rfl rfl rfl rfl fun b4=>?_
  refine ap_ (List.flatMap aE_ [[65]]) e_ rfl ?_
  refine E_ ac_ ao_ bq_ rfl rfl rfl rfl rfl rfl fun b5=>?_
  refine ap_ (List.flatMap ew_ [0,1]) e_ rfl ?_
  refine f_ (ev_ [(Ax.mk 1 false (Con.mk 3 [65] 0 0 none 0 []) (Con.mk 6 [114] 0 0 (some ⟨b1,0,none⟩) 1 [(Con.mk 3 [66] 0 0 none 0 [])]) none 0 [] [] [] []),(Ax.mk 1 false (Con.mk 3 [66] 0 0 none 0 []) (Con.mk 3 [67] 0 0 none 0 []) none 0 [] [] [] []),(Ax.mk 1 false (Con.mk 3 [68] 0 0 none 0 []) (Con.mk 3 [65] 0 0 none 0 []) none 0 [] [] [] [])] (some ⟨b3,0,none⟩) 3 ⟨by simp,by decide⟩ (fun z9 hz9=>by simp only[List.mem_cons,List.not_mem_nil,or_false]at hz9;rcases hz9 with rfl|rfl|rfl<;>(constructor<;>simp[Con.ok,Con.ok.oks])) (by simp) [[65]] (some ⟨b4,0,none⟩) 1 (by simp) (ie_ zk) (az_ [(Ax.mk 1 false (Con.mk 3 [65] 0 0 none 0 []) (Con.mk 6 [114] 0 0 (some ⟨b1,0,none⟩) 1 [(Con.mk 3 [66] 0 0 none 0 [])]) none 0 [] [] [] []),(Ax.mk 1 false (Con.mk 3 [66] 0 0 none 0 []) (Con.mk 3 [67] 0 0 none 0 []) none 0 [] [] [] []),(Ax.mk 1 false (Con.mk 3 [68] 0 0 none 0 []) (Con.mk 3 [65] 0 0 none 0 []) none 0 [] [] [] [])]).1 (az_ [(Ax.mk 1 false (Con.mk 3 [65] 0 0 none 0 []) (Con.mk 6 [114] 0 0 (some ⟨b1,0,none⟩) 1 [(Con.mk 3 [66] 0 0 none 0 [])]) none 0 [] [] [] []),(Ax.mk 1 false (Con.mk 3 [66] 0 0 none 0 []) (Con.mk 3 [67] 0 0 none 0 []) none 0 [] [] [] []),(Ax.mk 1 false (Con.mk 3 [68] 0 0 none 0 []) (Con.mk 3 [65] 0 0 none 0 []) none 0 [] [] [] [])]).2 (Prod.eta _).symm (Nat.le_of_ble_eq_true zk) [0,1] (some ⟨b5,0,none⟩) 2 (by simp) zk) rfl g_ (fun v _ h=>by exact⟨⟨h.2.2.1,fun y hy=>by simp only[List.mem_cons,List.not_mem_nil,or_false]at hy;rcases hy with rfl|rfl|rfl;exact⟨⟨.inl rfl,trivial⟩,⟨h.2.2.2.1,⟨⟨.inl rfl,trivial⟩,trivial⟩⟩,(.inl rfl)⟩;exact⟨⟨.inl rfl,trivial⟩,⟨.inl rfl,trivial⟩,(.inl rfl)⟩;exact⟨⟨.inl rfl,trivial⟩,⟨.inl rfl,trivial⟩,(.inl rfl)⟩⟩,h.2.2.2.2.1,h.2.1,h.1,trivial⟩) rfl fun _=>?_
  refine d_ (bb_ rfl) rfl (Zz 4 ?_)
  refine E_ n_ O_ an_ rfl rfl rfl rfl rfl rfl fun b6=>?_
  refine ap_ (List.flatMap aE_ [[66]]) e_ rfl ?_
  refine aF_ rfl rfl (E_ ac_ ao_ bq_ rfl rfl rfl rfl rfl rfl fun b7=>?_)
  refine ap_ (List.flatMap ew_ [1]) e_ rfl ?_
  refine aF_ rfl rfl (f_ (ev_ [(Ax.mk 1 false (Con.mk 3 [65] 0 0 none 0 []) (Con.mk 6 [114] 0 0 (some ⟨b1,0,none⟩) 1 [(Con.mk 3 [66] 0 0 none 0 [])]) none 0 [] [] [] []),(Ax.mk 1 false (Con.mk 3 [66] 0 0 none 0 []) (Con.mk 3 [67] 0 0 none 0 []) none 0 [] [] [] []),(Ax.mk 1 false (Con.mk 3 [68] 0 0 none 0 []) (Con.mk 3 [65] 0 0 none 0 []) none 0 [] [] [] [])] (some ⟨b3,0,none⟩) 3 ⟨by simp,by decide⟩ (fun z9 hz9=>by simp only[List.mem_cons,List.not_mem_nil,or_false]at hz9;rcases hz9 with rfl|rfl|rfl<;>(constructor<;>simp[Con.ok,Con.ok.oks])) (by simp) [[66]] (some ⟨b6,0,none⟩) 1 (by simp) (ie_ zk) (az_ [(Ax.mk 1 false (Con.mk 3 [65] 0 0 none 0 []) (Con.mk 6 [114] 0 0 (some ⟨b1,0,none⟩) 1 [(Con.mk 3 [66] 0 0 none 0 [])]) none 0 [] [] [] []),(Ax.mk 1 false (Con.mk 3 [66] 0 0 none 0 []) (Con.mk 3 [67] 0 0 none 0 []) none 0 [] [] [] []),(Ax.mk 1 false (Con.mk 3 [68] 0 0 none 0 []) (Con.mk 3 [65] 0 0 none 0 []) none 0 [] [] [] [])]).1 (az_ [(Ax.mk 1 false (Con.mk 3 [65] 0 0 none 0 []) (Con.mk 6 [114] 0 0 (some ⟨b1,0,none⟩) 1 [(Con.mk 3 [66] 0 0 none 0 [])]) none 0 [] [] [] []),(Ax.mk 1 false (Con.mk 3 [66] 0 0 none 0 []) (Con.mk 3 [67] 0 0 none 0 []) none 0 [] [] [] []),(Ax.mk 1 false (Con.mk 3 [68] 0 0 none 0 []) (Con.mk 3 [65] 0 0 none 0 []) none 0 [] [] [] [])]).2 (Prod.eta _).symm (Nat.le_of_ble_eq_true zk) [1] (some ⟨b7,0,none⟩) 1 (by simp) zk) rfl g_ (fun v _ h=>by exact⟨⟨h.2.2.2.2.1,fun y hy=>by simp only[List.mem_cons,List.not_mem_nil,or_false]at hy;rcases hy with rfl|rfl|rfl;exact⟨⟨.inl rfl,trivial⟩,⟨h.2.2.2.2.2.1,⟨⟨.inl rfl,trivial⟩,trivial⟩⟩,(.inl rfl)⟩;exact⟨⟨.inl rfl,trivial⟩,⟨.inl rfl,trivial⟩,(.inl rfl)⟩;exact⟨⟨.inl rfl,trivial⟩,⟨.inl rfl,trivial⟩,(.inl rfl)⟩⟩,h.2.2.2.2.2.2.1,h.2.1,h.1,trivial⟩) rfl fun _=>?_)
  refine aF_ rfl rfl (d_ (bb_ rfl) rfl (Zz 5 ?_))
  refine E_ n_ O_ an_ rfl rfl rfl rfl rfl rfl fun b8=>?_
  refine ap_ (List.flatMap aE_ [[60,115,111,109,101,32,114,32,66,62]]) e_ rfl ?_
  refine aF_ rfl rfl (E_ ac_ ao_ bq_ rfl rfl rfl rfl rfl rfl fun b9=>?_)
  refine ap_ (List.flatMap ew_ [0,1]) e_ rfl ?_
  refine aF_ rfl rfl (f_ (ev_ [(Ax.mk 1 false (Con.mk 3 [65] 0 0 none 0 []) (Con.mk 6 [114] 0 0 (some ⟨b1,0,none⟩) 1 [(Con.mk 3 [66] 0 0 none 0 [])]) none 0 [] [] [] []),(Ax.mk 1 false (Con.mk 3 [66] 0 0 none 0 []) (Con.mk 3 [67] 0 0 none 0 []) none 0 [] [] [] []),(Ax.mk 1 false (Con.mk 3 [68] 0 0 none 0 []) (Con.mk 3 [65] 0 0 none 0 []) none 0 [] [] [] [])] (some ⟨b3,0,none⟩) 3 ⟨by simp,by decide⟩ (fun z9 hz9=>by simp only[List.mem_cons,List.not_mem_nil,or_false]at hz9;rcases hz9 with rfl|rfl|rfl<;>(constructor<;>simp[Con.ok,Con.ok.oks])) (by simp) [[60,115,111,109,101,32,114,32,66,62]] (some ⟨b8,0,none⟩) 1 (by simp) (ie_ zk) (az_ [(Ax.mk 1 false (Con.mk 3 [65] 0 0 none 0 []) (Con.mk 6 [114] 0 0 (some ⟨b1,0,none⟩) 1 [(Con.mk 3 [66] 0 0 none 0 [])]) none 0 [] [] [] []),(Ax.mk 1 false (Con.mk 3 [66] 0 0 none 0 []) (Con.mk 3 [67] 0 0 none 0 []) none 0 [] [] [] []),(Ax.mk 1 false (Con.mk 3 [68] 0 0 none 0 []) (Con.mk 3 [65] 0 0 none 0 []) none 0 [] [] [] [])]).1 (az_ [(Ax.mk 1 false (Con.mk 3 [65] 0 0 none 0 []) (Con.mk 6 [114] 0 0 (some ⟨b1,0,none⟩) 1 [(Con.mk 3 [66] 0 0 none 0 [])]) none 0 [] [] [] []),(Ax.mk 1 false (Con.mk 3 [66] 0 0 none 0 []) (Con.mk 3 [67] 0 0 none 0 []) none 0 [] [] [] []),(Ax.mk 1 false (Con.mk 3 [68] 0 0 none 0 []) (Con.mk 3 [65] 0 0 none 0 []) none 0 [] [] [] [])]).2 (Prod.eta _).symm (Nat.le_of_ble_eq_true zk) [0,1] (some ⟨b9,0,none⟩) 2 (by simp) zk) rfl g_ (fun v _ h=>by exact⟨⟨h.2.2.2.2.2.2.1,fun y hy=>by simp only[List.mem_cons,List.not_mem_nil,or_false]at hy;rcases hy with rfl|rfl|rfl;exact⟨⟨.inl rfl,trivial⟩,⟨h.2.2.2.2.2.2.2.1,⟨⟨.inl rfl,trivial⟩,trivial⟩⟩,(.inl rfl)⟩;exact⟨⟨.inl rfl,trivial⟩,⟨.inl rfl,trivial⟩,(.inl rfl)⟩;exact⟨⟨.inl rfl,trivial⟩,⟨.inl rfl,trivial⟩,(.inl rfl)⟩⟩,h.2.2.2.2.2.2.2.2.1,h.2.1,h.1,trivial⟩) rfl fun _=>?_)
  refine aF_ rfl rfl (d_ (bb_ rfl) rfl (Zz 8 ?_))
  refine d_ (w_ nt_ rfl rfl) rfl (f_ (eU_ [65]) rfl g_ zt rfl fun _=>d_ (w_ jL_ rfl rfl) rfl (E_ Q_ S_ bc_ rfl rfl rfl rfl rfl rfl fun b10=>?_))
  refine ap_ (List.flatMap Ax.cells [(Ax.mk 1 false (Con.mk 1 [] 0 0 none 0 []) (Con.mk 3 [65] 0 0 none 0 []) none 0 [] [] [] [])]) e_ rfl ?_
  refine Zz 5 ?_
  refine f_ (eU_ [65]) rfl g_ zt rfl fun _=>f_ (eU_ [66]) rfl g_ zt rfl fun _=>d_ (w_ jL_ rfl rfl) rfl (E_ Q_ S_ bc_ rfl rfl rfl rfl rfl rfl fun b11=>?_)
  refine ap_ (List.flatMap Ax.cells [(Ax.mk 3 false (Con.mk 3 [65] 0 0 none 0 []) (Con.mk 3 [66] 0 0 none 0 []) none 0 [] [] [] [])]) e_ rfl ?_
  refine Zz 5 ?_
  refine d_ (w_ jL_ rfl rfl) rfl (f_ (eU_ [65]) rfl g_ zt rfl fun _=>d_ (w_ jL_ rfl rfl) rfl (f_ (hi_ [65] [66]) rfl g_ zt rfl fun _=>E_ Q_ S_ bc_ rfl rfl rfl rfl rfl rfl fun b12=>?_))
  refine ap_ (List.flatMap Ax.cells [(Ax.mk 7 true (Con.mk 0 [] 0 0 none 0 []) (Con.mk 0 [] 0 0 none 0 []) none 0 [] [114] [] []),(Ax.mk 4 false (Con.mk 0 [] 0 0 none 0 []) (Con.mk 3 [65] 0 0 none 0 []) none 0 [] [114] [] []),(Ax.mk 1 false (Con.mk 3 [65] 0 0 none 0 []) (Con.mk 3 [66] 0 0 none 0 []) none 0 [] [] [] [])]) e_ rfl ?_
  refine Zz 7 ?_
  refine E_ ac_ ao_ bq_ rfl rfl rfl rfl rfl rfl fun b13=>?_
  refine ap_ (List.flatMap ew_ [0]) e_ rfl ?_
  refine f_ (ev_ [(Ax.mk 1 false (Con.mk 1 [] 0 0 none 0 []) (Con.mk 3 [65] 0 0 none 0 []) none 0 [] [] [] [])] (some ⟨b10,0,none⟩) 1 ⟨by simp,by decide⟩ (fun z9 hz9=>by simp only[List.mem_cons,List.not_mem_nil,or_false]at hz9;rcases hz9 with rfl<;>(constructor<;>simp[Con.ok,Con.ok.oks])) (by simp) ([]:List Str) none 0 (by simp) (ie_ zk) (az_ [(Ax.mk 1 false (Con.mk 1 [] 0 0 none 0 []) (Con.mk 3 [65] 0 0 none 0 []) none 0 [] [] [] [])]).1 (az_ [(Ax.mk 1 false (Con.mk 1 [] 0 0 none 0 []) (Con.mk 3 [65] 0 0 none 0 []) none 0 [] [] [] [])]).2 (Prod.eta _).symm (Nat.le_of_ble_eq_true zk) [0] (some ⟨b13,0,none⟩) 1 (by simp) zk) rfl g_ (fun v _ h=>by exact⟨⟨h.2.2.2.1,fun y hy=>by simp only[List.mem_cons,List.not_mem_nil,or_false]at hy;rcases hy with rfl;exact⟨⟨.inl rfl,trivial⟩,⟨.inl rfl,trivial⟩,(.inl rfl)⟩⟩,h.2.2.2.2.2.2.2.2.2.2.2.2.1,.inl rfl,h.1,trivial⟩) rfl fun _=>?_
  refine d_ (bb_ rfl) rfl (Zz 4 ?_)
  refine E_ n_ O_ an_ rfl rfl rfl rfl rfl rfl fun b14=>?_
  refine ap_ (List.flatMap aE_ [[65]]) e_ rfl ?_
  refine aF_ rfl rfl (f_ (ev_ [(Ax.mk 3 false (Con.mk 3 [65] 0 0 none 0 []) (Con.mk 3 [66] 0 0 none 0 []) none 0 [] [] [] [])] (some ⟨b11,0,none⟩) 1 ⟨by simp,by decide⟩ (fun z9 hz9=>by simp only[List.mem_cons,List.not_mem_nil,or_false]at hz9;rcases hz9 with rfl<;>(constructor<;>simp[Con.ok,Con.ok.oks])) (by simp) [[65]] (some ⟨b14,0,none⟩) 1 (by simp) (ie_ zk) (az_ [(Ax.mk 3 false (Con.mk 3 [65] 0 0 none 0 []) (Con.mk 3 [66] 0 0 none 0 []) none 0 [] [] [] [])]).1 (az_ [(Ax.mk 3 false (Con.mk 3 [65] 0 0 none 0 []) (Con.mk 3 [66] 0 0 none 0 []) none 0 [] [] [] [])]).2 (Prod.eta _).symm (Nat.le_of_ble_eq_true zk) ([]:List Int) none 0 (by simp) zk) rfl g_ (fun v _ h=>by exact⟨⟨h.2.2.2.1,fun y hy=>by simp only[List.mem_cons,List.not_mem_nil,or_false]at hy;rcases hy with rfl;exact⟨⟨.inl rfl,trivial⟩,⟨.inl rfl,trivial⟩,(.inl rfl)⟩⟩,h.2.2.2.2.2.2.2.2.2.2.2.2.2.1,h.1,.inl rfl,trivial⟩) rfl fun _=>?_)
  refine aF_ rfl rfl (d_ (bb_ rfl) rfl (Zz 5 ?_))
  refine E_ n_ O_ an_ rfl rfl rfl rfl rfl rfl fun b15=>?_
  refine ap_ (List.flatMap aE_ [[65],[66]]) e_ rfl ?_
  refine aF_ rfl rfl (E_ ac_ ao_ bq_ rfl rfl rfl rfl rfl rfl fun b16=>?_)
  refine ap_ (List.flatMap ew_ [0]) e_ rfl ?_
  refine aF_ rfl rfl (f_ (ev_ [(Ax.mk 3 false (Con.mk 3 [65] 0 0 none 0 []) (Con.mk 3 [66] 0 0 none 0 []) none 0 [] [] [] [])] (some ⟨b11,0,none⟩) 1 ⟨by simp,by decide⟩ (fun z9 hz9=>by simp only[List.mem_cons,List.not_mem_nil,or_false]at hz9;rcases hz9 with rfl<;>(constructor<;>simp[Con.ok,Con.ok.oks])) (by simp) [[65],[66]] (some ⟨b15,0,none⟩) 2 (by simp) (ie_ zk) (az_ [(Ax.mk 3 false (Con.mk 3 [65] 0 0 none 0 []) (Con.mk 3 [66] 0 0 none 0 []) none 0 [] [] [] [])]).1 (az_ [(Ax.mk 3 false (Con.mk 3 [65] 0 0 none 0 []) (Con.mk 3 [66] 0 0 none 0 []) none 0 [] [] [] [])]).2 (Prod.eta _).symm (Nat.le_of_ble_eq_true zk) [0] (some ⟨b16,0,none⟩) 1 (by simp) zk) rfl g_ (fun v _ h=>by exact⟨⟨h.2.2.2.2.2.1,fun y hy=>by simp only[List.mem_cons,List.not_mem_nil,or_false]at hy;rcases hy with rfl;exact⟨⟨.inl rfl,trivial⟩,⟨.inl rfl,trivial⟩,(.inl rfl)⟩⟩,h.2.2.2.2.2.2.2.2.2.2.2.2.2.2.2.1,h.2.1,h.1,trivial⟩) rfl fun _=>?_)
  refine aF_ rfl rfl (d_ (bb_ rfl) rfl (Zz 5 ?_))
  refine E_ n_ O_ an_ rfl rfl rfl rfl rfl rfl fun b17=>?_
  refine ap_ (List.flatMap aE_ [[67]]) e_ rfl ?_
  refine aF_ rfl rfl (E_ ac_ ao_ bq_ rfl rfl rfl rfl rfl rfl fun b18=>?_)
  refine ap_ (List.flatMap ew_ [0,1,2]) e_ rfl ?_
  refine aF_ rfl rfl (f_ (ev_ [(Ax.mk 7 true (Con.mk 0 [] 0 0 none 0 []) (Con.mk 0 [] 0 0 none 0 []) none 0 [] [114] [] []),(Ax.mk 4 false (Con.mk 0 [] 0 0 none 0 []) (Con.mk 3 [65] 0 0 none 0 []) none 0 [] [114] [] []),(Ax.mk 1 false (Con.mk 3 [65] 0 0 none 0 []) (Con.mk 3 [66] 0 0 none 0 []) none 0 [] [] [] [])] (some ⟨b12,0,none⟩) 3 ⟨by simp,by decide⟩ (fun z9 hz9=>by simp only[List.mem_cons,List.not_mem_nil,or_false]at hz9;rcases hz9 with rfl|rfl|rfl<;>(constructor<;>simp[Con.ok,Con.ok.oks])) (by simp) [[67]] (some ⟨b17,0,none⟩) 1 (by simp) (ie_ zk) (az_ [(Ax.mk 7 true (Con.mk 0 [] 0 0 none 0 []) (Con.mk 0 [] 0 0 none 0 []) none 0 [] [114] [] []),(Ax.mk 4 false (Con.mk 0 [] 0 0 none 0 []) (Con.mk 3 [65] 0 0 none 0 []) none 0 [] [114] [] []),(Ax.mk 1 false (Con.mk 3 [65] 0 0 none 0 []) (Con.mk 3 [66] 0 0 none 0 []) none 0 [] [] [] [])]).1 (az_ [(Ax.mk 7 true (Con.mk 0 [] 0 0 none 0 []) (Con.mk 0 [] 0 0 none 0 []) none 0 [] [114] [] []),(Ax.mk 4 false (Con.mk 0 [] 0 0 none 0 []) (Con.mk 3 [65] 0 0 none 0 []) none 0 [] [114] [] []),(Ax.mk 1 false (Con.mk 3 [65] 0 0 none 0 []) (Con.mk 3 [66] 0 0 none 0 []) none 0 [] [] [] [])]).2 (Prod.eta _).symm (Nat.le_of_ble_eq_true zk) [0,1,2] (some ⟨b18,0,none⟩) 3 (by simp) zk) rfl g_ (fun v _ h=>by exact⟨⟨h.2.2.2.2.2.2.1,fun y hy=>by simp only[List.mem_cons,List.not_mem_nil,or_false]at hy;rcases hy with rfl|rfl|rfl;exact⟨⟨.inl rfl,trivial⟩,⟨.inl rfl,trivial⟩,(.inl rfl)⟩;exact⟨⟨.inl rfl,trivial⟩,⟨.inl rfl,trivial⟩,(.inl rfl)⟩;exact⟨⟨.inl rfl,trivial⟩,⟨.inl rfl,trivial⟩,(.inl rfl)⟩⟩,h.2.2.2.2.2.2.2.2.2.2.2.2.2.2.2.2.2.1,h.2.1,h.1,trivial⟩) rfl fun _=>?_)
  refine aF_ rfl rfl (d_ (bb_ rfl) rfl (Zz 8 ?_))
  refine f_ (hi_ [65] [66]) rfl g_ zt rfl fun _=>f_ (hi_ [67] [68]) rfl g_ zt rfl fun _=>E_ Q_ S_ bc_ rfl rfl rfl rfl rfl rfl fun b19=>?_
  refine ap_ (List.flatMap Ax.cells [(Ax.mk 1 false (Con.mk 3 [65] 0 0 none 0 []) (Con.mk 3 [66] 0 0 none 0 []) none 0 [] [] [] []),(Ax.mk 1 false (Con.mk 3 [67] 0 0 none 0 []) (Con.mk 3 [68] 0 0 none 0 []) none 0 [] [] [] [])]) e_ rfl ?_
  refine d_ (w_ strt37 rfl rfl) rfl (f_ (hi_ [65] [68]) rfl g_ zt rfl fun _=>?_)
  refine f_ (Of0_c [(Ax.mk 1 false (Con.mk 3 [65] 0 0 none 0 []) (Con.mk 3 [66] 0 0 none 0 []) none 0 [] [] [] []),(Ax.mk 1 false (Con.mk 3 [67] 0 0 none 0 []) (Con.mk 3 [68] 0 0 none 0 []) none 0 [] [] [] [])] (some ⟨b19,0,none⟩) 2 (fun z9 hz9=>by simp only[List.mem_cons,List.not_mem_nil,or_false]at hz9;rcases hz9 with rfl|rfl<;>(constructor<;>simp[Con.ok,Con.ok.oks])) (fun z9 hz9=>by simp only[List.mem_cons,List.not_mem_nil,or_false]at hz9;rcases hz9 with rfl|rfl<;>kernel_rfl) (fun z9 hz9=>by simp only[List.mem_cons,List.not_mem_nil,or_false]at hz9;rcases hz9 with rfl|rfl<;>exact⟨rfl,rfl,rfl⟩) (by simp) (fun z9 hz9=>by simp only[List.mem_cons,List.not_mem_nil,or_false]at hz9;rcases hz9 with rfl|rfl<;>exact⟨Nat.le_of_ble_eq_true zk,Nat.le_of_ble_eq_true zk⟩) (tP_ zk) ⟨by simp,by decide⟩ (az_ [(Ax.mk 1 false (Con.mk 3 [65] 0 0 none 0 []) (Con.mk 3 [66] 0 0 none 0 []) none 0 [] [] [] []),(Ax.mk 1 false (Con.mk 3 [67] 0 0 none 0 []) (Con.mk 3 [68] 0 0 none 0 []) none 0 [] [] [] [])]).1 zk (Nat.le_of_ble_eq_true zk) (Ax.mk 1 false (Con.mk 3 [65] 0 0 none 0 []) (Con.mk 3 [68] 0 0 none 0 []) none 0 [] [] [] []) (by constructor<;>simp[Con.ok,Con.ok.oks]) (Ax.goalP (Ax.mk 1 false (Con.mk 3 [65] 0 0 none 0 []) (Con.mk 3 [68] 0 0 none 0 []) none 0 [] [] [] [])).1 (Ax.goalP (Ax.mk 1 false (Con.mk 3 [65] 0 0 none 0 []) (Con.mk 3 [68] 0 0 none 0 []) none 0 [] [] [] [])).2.1 zk (Nat.le_of_ble_eq_true zk)) rfl g_ (fun v _ h=>by exact⟨⟨h.1,fun y hy=>by simp only[List.mem_cons,List.not_mem_nil,or_false]at hy;rcases hy with rfl|rfl;exact⟨⟨.inl rfl,trivial⟩,⟨.inl rfl,trivial⟩,(.inl rfl)⟩;exact⟨⟨.inl rfl,trivial⟩,⟨.inl rfl,trivial⟩,(.inl rfl)⟩⟩,h.2.2.2.2.2.2.2.2.2.2.2.2.2.2.2.2.2.2.1,⟨⟨.inl rfl,trivial⟩,⟨.inl rfl,trivial⟩,(.inl rfl)⟩,trivial⟩) rfl fun⟨⟨svq,Hqq⟩,hrq⟩=>?_
  dsimp only
  dsimp only at hrq
  rw[show bR_ [(Ax.mk 1 false (Con.mk 3 [65] 0 0 none 0 []) (Con.mk 3 [66] 0 0 none 0 []) none 0 [] [] [] []),(Ax.mk 1 false (Con.mk 3 [67] 0 0 none 0 []) (Con.mk 3 [68] 0 0 none 0 []) none 0 [] [] [] [])] (eC_ [(Ax.mk 1 false (Con.mk 3 [65] 0 0 none 0 []) (Con.mk 3 [66] 0 0 none 0 []) none 0 [] [] [] []),(Ax.mk 1 false (Con.mk 3 [67] 0 0 none 0 []) (Con.mk 3 [68] 0 0 none 0 []) none 0 [] [] [] [])] ((az_ [(Ax.mk 1 false (Con.mk 3 [65] 0 0 none 0 []) (Con.mk 3 [66] 0 0 none 0 []) none 0 [] [] [] []),(Ax.mk 1 false (Con.mk 3 [67] 0 0 none 0 []) (Con.mk 3 [68] 0 0 none 0 []) none 0 [] [] [] [])]).1++(Ax.goalP (Ax.mk 1 false (Con.mk 3 [65] 0 0 none 0 []) (Con.mk 3 [68] 0 0 none 0 []) none 0 [] [] [] [])).1) (dY_ (Ax.goalP (Ax.mk 1 false (Con.mk 3 [65] 0 0 none 0 []) (Con.mk 3 [68] 0 0 none 0 []) none 0 [] [] [] [])).1) (List.length [(Ax.mk 1 false (Con.mk 3 [65] 0 0 none 0 []) (Con.mk 3 [66] 0 0 none 0 []) none 0 [] [] [] []),(Ax.mk 1 false (Con.mk 3 [67] 0 0 none 0 []) (Con.mk 3 [68] 0 0 none 0 []) none 0 [] [] [] [])]))=[(Ax.mk 1 false (Con.mk 3 [65] 0 0 none 0 []) (Con.mk 3 [66] 0 0 none 0 []) none 0 [] [] [] [])] from by rw[uC_];kernel_rfl]at hrq
  refine cr_ hrq o_ fun oad ocap hoad hcoad hmoad hzoad=>?_
  subst hoad
  refine Zz 3 ?_
  refine K_ Tryz.zeroValue37 rfl fun b20=>x_ 0 gQ_ rfl rfl rfl rfl rfl rfl (Zz 5 ?_)
  refine E_ n_ O_ an_ rfl rfl rfl rfl rfl rfl fun b21=>?_
  refine ap_ (List.flatMap aE_ [[60]]) e_ rfl ?_
  refine f_ (oo_ ([]:List Ax) none 0 ⟨by simp,by decide⟩ (fun z9 hz9=>by cases hz9) (by simp) [[60]] (some ⟨b21,0,none⟩) 1 (by simp) (ie_ zk) [] 0 zk (by simp) [] 1 zk) rfl g_ (fun v _ h=>by exact⟨⟨.inl rfl,by simp⟩,h.2.2.2.2.2.2.2.2.2.2.2.2.2.2.2.2.2.2.2.2.1,h.1,trivial⟩) rfl fun⟨⟨rad,rcap⟩,hrc⟩=>?_
  dsimp only
  refine Zz 9 ?_
  refine z_ 8 [0,1,2,3,4,5,6,7,8,9,10,11,12] zk zs (Zz 1 ?_)
  refine P_ rfl (aY_ (aI_ rfl rfl) (show _=Value.bool true from congrArg Value.bool (by decide))) rfl (Zz 4 ?_)
  refine bZ_ rfl rfl rfl (aY_ (aI_ rfl rfl) (show _=Value.bool true from congrArg Value.bool (by decide))) rfl (Zz 4 ?_)
  refine bZ_ rfl rfl rfl (L_ Q_ S_ rfl rfl (fun v _ h=>y_ (n:=16) Ax.cells_len (by decide) (by exact h.2.2.1) (show [(Ax.mk 1 false (Con.mk 3 [65] 0 0 none 0 []) (Con.mk 3 [66] 0 0 none 0 []) none 0 [] [] [] [])][0]? = some _ from rfl)) (by omega) (by first|omega|(simp;done))) rfl ?_
  refine bZ_ rfl rfl rfl (af_ (ad:=oad) (us:=Ax.cells (Ax.mk 1 false (Con.mk 3 [65] 0 0 none 0 []) (Con.mk 3 [66] 0 0 none 0 []) none 0 [] [] [] [])) bI_ S_ rfl zf (Ax.cells_len _) (u_ Ax.cells_len (show [(Ax.mk 1 false (Con.mk 3 [65] 0 0 none 0 []) (Con.mk 3 [66] 0 0 none 0 []) none 0 [] [] [] [])][0]? = some _ from rfl))) rfl (bA_ (j_ 13 rfl zk (aF_ rfl rfl (f_ (hi_ [65] [66]) rfl g_ zt rfl fun _=>Zz 3 ?_))))
  refine j_ 14 rfl zk (aF_ rfl rfl (f_ ((show Tri Tryz.prog 34 _ [] _ (fun _:Unit=>.bool true) (fun _=>[]) (fun _=>[]) from by have h:=rX_ (Ax.mk 1 false (Con.mk 3 [65] 0 0 none 0 []) (Con.mk 3 [66] 0 0 none 0 []) none 0 [] [] [] []) (Ax.mk 1 false (Con.mk 3 [65] 0 0 none 0 []) (Con.mk 3 [66] 0 0 none 0 []) none 0 [] [] [] []) (by constructor<;>simp[Con.ok,Con.ok.oks]) (by constructor<;>simp[Con.ok,Con.ok.oks]) (Nat.le_of_ble_eq_true zk) (Nat.le_of_ble_eq_true zk) (Nat.le_of_ble_eq_true zk) (Nat.le_of_ble_eq_true zk);rw[show ((Ax.opn (Ax.mk 1 false (Con.mk 3 [65] 0 0 none 0 []) (Con.mk 3 [66] 0 0 none 0 []) none 0 [] [] [] [])==Ax.opn (Ax.mk 1 false (Con.mk 3 [65] 0 0 none 0 []) (Con.mk 3 [66] 0 0 none 0 []) none 0 [] [] [] []))&&(Ax.cmp (Ax.mk 1 false (Con.mk 3 [65] 0 0 none 0 []) (Con.mk 3 [66] 0 0 none 0 []) none 0 [] [] [] []) (Ax.mk 1 false (Con.mk 3 [65] 0 0 none 0 []) (Con.mk 3 [66] 0 0 none 0 []) none 0 [] [] [] [])==0))=true from by kernel_rfl]at h;exact h)) rfl g_ (fun v _ h=>by exact⟨⟨⟨.inl rfl,trivial⟩,⟨.inl rfl,trivial⟩,(.inl rfl)⟩,⟨⟨.inl rfl,trivial⟩,⟨.inl rfl,trivial⟩,(.inl rfl)⟩,trivial⟩) rfl fun _=>?_))
  refine Zz 3 ?_
  refine z_ 0 [15,16,17,18,19,20] zk zs (Zz 3 ?_)
  refine bZ_ rfl rfl rfl (aY_ (aI_ rfl rfl) (show _=Value.bool true from congrArg Value.bool (by decide))) rfl (Zz 6 ?_)
  exact N_ Tryz.results8 () rfl (.refl _) zt
end Go.Proofs.YtamklbgaipakfaaGreatDoor
namespace Go.Proofs.YtamklbgaipakfaaGreatDoor
open Go Go.Sx Go.Proofs
attribute [local irreducible] Code.wp wpList wpAnyH
open Go.Vs
theorem td_ {l:List Fc} {s:Str} {i:Nat} {x:Fc} (hx:l[i]? = some x) (h:x.a=s):dx_ (List.take (i+1) l) s=dx_ (List.take i l) s++[x]:=by
  unfold dx_;rw[List.take_add_one,hx,Option.toList_some,List.filter_append];simp[h]
theorem uI_ {l:List Fc} {s:Str} {i:Nat} {x:Fc} (hx:l[i]? = some x) (h:¬ x.a=s):dx_ (List.take (i+1) l) s=dx_ (List.take i l) s:=by
  unfold dx_;rw[List.take_add_one,hx,Option.toList_some,List.filter_append];simp[h]
theorem te_ {l:List Fc} {s:Str} {i:Nat}:(dx_ (List.take i l) s).length≤i:=by
  unfold dx_;exact Nat.le_trans (List.length_filter_le _ _) (List.length_take_le _ _)
theorem nn_ (c:Cl) (s:Str) (hc:c.facts.length≤100000000):Tri Tryz.prog 30 #[Cl.val c,str s] [] [al_ c.fad (List.flatMap Fc.cells c.facts)] (fun y:{y:Option Addr×Nat // ((dx_ c.facts s)).length≤y.2∧y.2≤maxLen∧(y.1=none→y.2=0)}=>.slice y.1.1 ((dx_ c.facts s)).length y.1.2) (fun _=>[]) (fun y=>[al_ y.1.1 (((dx_ c.facts s)).flatMap Fc.cells)]):=by
 refine l_ Tryz.func30 rfl rfl Tryz.ntmps30 rfl fun v0=>?_
 refine Zz 2 ?_
 refine U_ rfl rfl fun b1=>Zz 15 ?_
 refine ai_ (ι:={y:Nat×Value×Hp // y.1≤List.length c.facts∧zR 67 6 Fc.cells y.2.1 (dx_ (List.take y.1 c.facts) s) y.2.2}) (fun y=>[(1,str s),(2,zp_ b1 0),(4,.slice none 0 0),(5,y.1.2.1),(6,.int .i64 (y.1.1:Int))]) (fun y=>((b1,.cells #[.slice c.aad (List.length c.atoms) c.acap,.slice c.fad (List.length c.facts) c.fcap] 61 (0,0))::y.1.2.2)) (fun y=>[al_ c.fad (List.flatMap Fc.cells c.facts)]) (fun y=>List.length c.facts - y.1.1) ⟨((0:Nat),(.slice none 0 0),[]),by simp,(aL_.nil _ _)⟩ zl e_ zh ?_
 rintro ⟨⟨i,sv_Q,H_Q⟩,hi_i,hr_Q⟩
 dsimp only at hi_i hr_Q ⊢
 have hal:=te_ (l:=Cl.facts c) (s:=s) (i:=i)
 refine Zi 7 (fun hr1=>?_) fun hr1=>?_
 ·refine Zz 12 ?_
  have hw1:aL_ 67 6 sv_Q (List.length (dx_ c.facts s)) (List.flatMap Fc.cells (dx_ c.facts s)) H_Q:=by have q:=hr_Q;rw[List.take_of_length_le (by omega)]at q;exact q
  refine cr_ hw1 M_ fun ad2 cp2 had2 hcad2 hmad2 hzad2=>?_
  exact N_ Tryz.results30 ⟨(ad2,cp2),hcad2,hmad2,hzad2⟩ (cb_ rfl had2) g_ zf
 obtain⟨hlx1,x1,hx1,hmx1⟩:=zge (show i<List.length c.facts by omega)
 refine Zi 16 (fun hr2=>?_) fun hr2=>?_
 ·refine Zz 11 ?_
  exact J_ ⟨(i+1,sv_Q,H_Q),hlx1,(by rw[uI_ hx1 (by assumption)];exact hr_Q)⟩ (by dsimp only;omega) zl zp zh
 refine Zz 10 ?_
 refine E_ aw_ aA_ aQ_ rfl rfl rfl rfl rfl rfl fun b2=>?_
 refine aG_ (news:=List.flatMap Fc.cells [x1]) ob_ hr_Q rfl rfl zp rfl (bM_ 0 rfl) (fun u hu=>bd_ Fc.cells_one hu) (by simp only[maxLen];((try simp only[List.length_append,List.length_cons,List.length_nil]);omega)) (by ((try simp only[List.length_append,List.length_cons,List.length_nil]);omega)) rfl fun sv2 Hr2 hr2=>?_
 refine C_ List.perm_append_comm ?_
 have hq2:=zsa hr2
 refine Zz 9 ?_
 exact J_ ⟨(i+1,sv2,Hr2),hlx1,(by rw[td_ hx1 (by assumption)];exact hq2)⟩ (by dsimp only;omega) zl (p_ (c_ e_) M_) zh
theorem sM_ (l m:List Fc) (ad ae:Option Addr) (cap cpe:Nat) (hl:l.length≤1000000000000) (hm:m.length≤1000000000000):Tri Tryz.prog 29 #[.slice ad (List.length l) cap,.slice ae (List.length m) cpe] [] [al_ ad (List.flatMap Fc.cells l),al_ ae (List.flatMap Fc.cells m)] (fun _:Unit=>.bool (decide (l=m))) (fun _=>[]) (fun _=>[]):=by
 refine l_ Tryz.func29 rfl rfl Tryz.ntmps29 rfl fun v0=>?_
 refine Zi 12 (fun hr1=>?_) fun hr1=>?_
 ·refine Zz 12 ?_
  refine ai_ (ι:={y:Nat // y≤l.length∧l.take y=m.take y}) (fun y=>[(0,.slice ad (List.length l) cap),(1,.slice ae (List.length m) cpe),(5,.int .i64 (y.1:Int))]) (fun y=>([])) (fun y=>[al_ ad (List.flatMap Fc.cells l),al_ ae (List.flatMap Fc.cells m)]) (fun y=>l.length - y.1) ⟨(0:Nat),by simp,by simp⟩ zl g_ zh ?_
  rintro ⟨i,hi,he⟩
  dsimp only at hi he ⊢
  have hlm:l.length=m.length:=by omega
  refine Zi 6 (fun hr2=>?_) fun hr2=>?_
  ·refine Zz 11 ?_
   exact N_ Tryz.results29 () (m_ rfl (by symm;apply decide_eq_true;rwa [List.take_of_length_le (by omega),List.take_of_length_le (by omega)]at he)) g_ zt
  obtain⟨hlx1,x1,hx1,hmx1⟩:=zge (show i<List.length l by omega)
  obtain⟨hlx2,x2,hx2,hmx2⟩:=zge (show i<List.length m by omega)
  refine Zz 9 ?_
  refine z_ 0 [0,1,2,3,4,5,6,7,8] zk zs (Zz 8 ?_)
  refine gt_ rfl (gI_ (p:=x1) (q:=x2) rfl rfl) rfl fun r3 hr3=>Zz 3 ?_
  cases r3
  ·replace hr3:=zdf hr3
   refine Zz 9 ?_
   exact J_ ⟨i+1,hlx1,by rw[List.take_add_one,hx1,List.take_add_one,hx2,he];simp_all⟩ (by dsimp only;omega) zl g_ zh
  replace hr3:=zdt hr3
  refine Zz 7 ?_
  exact N_ Tryz.results29 () (m_ rfl (by symm;apply decide_eq_false;intro e;subst e;rw[hx1]at hx2;simp_all)) g_ zt
 refine Zz 9 ?_
 exact N_ Tryz.results29 () (m_ rfl (by symm;apply decide_eq_false;intro e;subst e;omega)) g_ zt
end Go.Proofs.YtamklbgaipakfaaGreatDoor
