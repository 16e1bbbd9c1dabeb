/-
  Part of the proof of the law ModuleReach over this seat: the small logic, the data, the contracts of functions (no condition).
-/
import Derived.Test.YtamklbgaipakfaaGreatDoorQModuleReach15
import Derived.Test.YtamklbgaipakfaaGreatDoorQModuleReach1
import Derived.Test.YtamklbgaipakfaaGreatDoorQModuleReach11
import Derived.Test.YtamklbgaipakfaaGreatDoorQModuleReach8
import Derived.Test.YtamklbgaipakfaaGreatDoorQModuleReach13
import Derived.Test.YtamklbgaipakfaaGreatDoorQModuleReach9
import Derived.Test.YtamklbgaipakfaaGreatDoorQModuleReach14
set_option linter.unusedVariables false
set_option linter.unusedSimpArgs false
set_option linter.unusedSectionVars false
set_option maxHeartbeats 1000000
namespace Go.Proofs.YtamklbgaipakfaaGreatDoor
open Go Go.Sx Go.Proofs
attribute [local irreducible] Code.wp wpList wpAnyH
open Go.Vs
theorem kB_ (x:Ax) (hok:x.ok) (hz1:x.left.sz≤1000) (hz2:x.right.sz≤1000):Tri Tryz.prog 154 #[Ax.val x] [] [Ax.memF x] (fun _:Unit=>.int .i64 x.wgt) (fun _=>[]) (fun _=>[]):=by
 refine o_ Tryz.func154 rfl rfl Tryz.ntmps154 rfl fun v0=>?_
 have hrl:=hok.len
 have hrc:=hok.cap
 refine Zz 2 ?_
 refine ah_ rfl rfl fun b1=>Zz 17 ?_
 refine s_ (bU_ rfl rfl) rfl fun r1 hr1=>Zz 2 ?_
 refine bV_ (ι:={y:Int // y=(if (bne (Con.kind (Ax.left x)) 0)=true then ((List.length (Ax.roles x):Int)+(Con.sz (Ax.left x):Int)) else (List.length (Ax.roles x):Int))}) (fun y=>[(1,zp_ b1 0),(2,.int .i64 0),(3,.int .i64 y.1)]) (fun y=>((b1,.cells #[.int .i64 (Ax.kind x),.bool (Ax.opn x),.int .i64 (Con.kind (Ax.left x)),str (Con.name (Ax.left x)),.int .i64 (Con.lo (Ax.left x)),.int .i64 (Con.hi (Ax.left x)),.slice (Con.ad (Ax.left x)) (List.length (Con.parts (Ax.left x))) (Con.cap (Ax.left x)),.int .i64 (Con.kind (Ax.right x)),str (Con.name (Ax.right x)),.int .i64 (Con.lo (Ax.right x)),.int .i64 (Con.hi (Ax.right x)),.slice (Con.ad (Ax.right x)) (List.length (Con.parts (Ax.right x))) (Con.cap (Ax.right x)),.slice (Ax.ad x) (List.length (Ax.roles x)) (Ax.cap x),str (Ax.role x),str (Ax.a x),str (Ax.b x)] 48 (0,0))::[])) (fun y=>[Ax.memF x]) ?_ ?_
 ·cases r1
  ·replace hr1:=cy_ hr1
   refine Zz 3 ?_
   exact aC_ ⟨(List.length (Ax.roles x):Int),(by rw[if_neg (by simpa using hr1)])⟩ zl t_ zf
  replace hr1:=cw_ hr1
  refine Zz 5 ?_
  refine i_ (hR_ _ (Ax.left x) (Nat.le_refl _) hok.left hz1) rfl f_ (fun v _ h=>by exact⟨h.1.1,trivial⟩) rfl fun _=>Zz 4 ?_
  exact aC_ ⟨((List.length (Ax.roles x):Int)+(Con.sz (Ax.left x):Int)),(by rw[if_pos (by simpa using hr1)])⟩ zl t_ zf
 rintro ⟨nn1,hnn1⟩
 dsimp only
 have hbw1:nn1≤8796093021952+1*1001∧0≤nn1:=by have q:=hnn1;split at q<;>omega
 refine Zz 7 ?_
 refine s_ (bU_ rfl rfl) rfl fun r2 hr2=>Zz 2 ?_
 refine bV_ (ι:={y:Int // y=(if (bne (Con.kind (Ax.right x)) 0)=true then (nn1+(Con.sz (Ax.right x):Int)) else nn1)}) (fun y=>[(1,zp_ b1 0),(2,.int .i64 0),(3,.int .i64 y.1)]) (fun y=>((b1,.cells #[.int .i64 (Ax.kind x),.bool (Ax.opn x),.int .i64 (Con.kind (Ax.left x)),str (Con.name (Ax.left x)),.int .i64 (Con.lo (Ax.left x)),.int .i64 (Con.hi (Ax.left x)),.slice (Con.ad (Ax.left x)) (List.length (Con.parts (Ax.left x))) (Con.cap (Ax.left x)),.int .i64 (Con.kind (Ax.right x)),str (Con.name (Ax.right x)),.int .i64 (Con.lo (Ax.right x)),.int .i64 (Con.hi (Ax.right x)),.slice (Con.ad (Ax.right x)) (List.length (Con.parts (Ax.right x))) (Con.cap (Ax.right x)),.slice (Ax.ad x) (List.length (Ax.roles x)) (Ax.cap x),str (Ax.role x),str (Ax.a x),str (Ax.b x)] 48 (0,0))::[])) (fun y=>[Ax.memF x]) ?_ ?_
 ·cases r2
  ·replace hr2:=cy_ hr2
   refine Zz 3 ?_
   exact aC_ ⟨nn1,(by rw[if_neg (by simpa using hr2)])⟩ zl t_ zf
  replace hr2:=cw_ hr2
  refine Zz 5 ?_
  refine i_ (hR_ _ (Ax.right x) (Nat.le_refl _) hok.right hz2) rfl f_ (fun v _ h=>by exact⟨h.1.2.1,trivial⟩) rfl fun _=>Zz 4 ?_
  exact aC_ ⟨(nn1+(Con.sz (Ax.right x):Int)),(by rw[if_pos (by simpa using hr2)])⟩ zl t_ zf
 rintro ⟨nn2,hnn2⟩
 dsimp only
 have hbw2:nn2≤8796093021952+2*1001∧0≤nn2:=by have q:=hnn2;split at q<;>omega
 refine Zz 6 ?_
 refine s_ (dJ_ rfl rfl) rfl fun r3 hr3=>Zz 2 ?_
 refine bV_ (ι:={y:Int // y=(if (bne (Ax.role x) [])=true then (nn2+1) else nn2)}) (fun y=>[(1,zp_ b1 0),(2,.int .i64 0),(3,.int .i64 y.1)]) (fun y=>((b1,.cells #[.int .i64 (Ax.kind x),.bool (Ax.opn x),.int .i64 (Con.kind (Ax.left x)),str (Con.name (Ax.left x)),.int .i64 (Con.lo (Ax.left x)),.int .i64 (Con.hi (Ax.left x)),.slice (Con.ad (Ax.left x)) (List.length (Con.parts (Ax.left x))) (Con.cap (Ax.left x)),.int .i64 (Con.kind (Ax.right x)),str (Con.name (Ax.right x)),.int .i64 (Con.lo (Ax.right x)),.int .i64 (Con.hi (Ax.right x)),.slice (Con.ad (Ax.right x)) (List.length (Con.parts (Ax.right x))) (Con.cap (Ax.right x)),.slice (Ax.ad x) (List.length (Ax.roles x)) (Ax.cap x),str (Ax.role x),str (Ax.a x),str (Ax.b x)] 48 (0,0))::[])) (fun y=>[Ax.memF x]) ?_ ?_
 ·cases r3
  ·replace hr3:=cy_ hr3
   refine Zz 3 ?_
   exact aC_ ⟨nn2,(by rw[if_neg (by simpa using hr3)])⟩ zl t_ zf
  replace hr3:=cw_ hr3
  refine Zz 7 ?_
  exact aC_ ⟨(nn2+1),(by rw[if_pos (by simpa using hr3)])⟩ zl t_ zf
 rintro ⟨nn3,hnn3⟩
 dsimp only
 have hbw3:nn3≤8796093021952+3*1001∧0≤nn3:=by have q:=hnn3;split at q<;>omega
 refine Zz 6 ?_
 refine s_ (dJ_ rfl rfl) rfl fun r4 hr4=>Zz 2 ?_
 refine bV_ (ι:={y:Int // y=(if (bne (Ax.a x) [])=true then (nn3+1) else nn3)}) (fun y=>[(1,zp_ b1 0),(2,.int .i64 0),(3,.int .i64 y.1)]) (fun y=>((b1,.cells #[.int .i64 (Ax.kind x),.bool (Ax.opn x),.int .i64 (Con.kind (Ax.left x)),str (Con.name (Ax.left x)),.int .i64 (Con.lo (Ax.left x)),.int .i64 (Con.hi (Ax.left x)),.slice (Con.ad (Ax.left x)) (List.length (Con.parts (Ax.left x))) (Con.cap (Ax.left x)),.int .i64 (Con.kind (Ax.right x)),str (Con.name (Ax.right x)),.int .i64 (Con.lo (Ax.right x)),.int .i64 (Con.hi (Ax.right x)),.slice (Con.ad (Ax.right x)) (List.length (Con.parts (Ax.right x))) (Con.cap (Ax.right x)),.slice (Ax.ad x) (List.length (Ax.roles x)) (Ax.cap x),str (Ax.role x),str (Ax.a x),str (Ax.b x)] 48 (0,0))::[])) (fun y=>[Ax.memF x]) ?_ ?_
 ·cases r4
  ·replace hr4:=cy_ hr4
   refine Zz 3 ?_
   exact aC_ ⟨nn3,(by rw[if_neg (by simpa using hr4)])⟩ zl t_ zf
  replace hr4:=cw_ hr4
  refine Zz 7 ?_
  exact aC_ ⟨(nn3+1),(by rw[if_pos (by simpa using hr4)])⟩ zl t_ zf
 rintro ⟨nn4,hnn4⟩
 dsimp only
 have hbw4:nn4≤8796093021952+4*1001∧0≤nn4:=by have q:=hnn4;split at q<;>omega
 refine Zz 6 ?_
 refine s_ (dJ_ rfl rfl) rfl fun r5 hr5=>Zz 2 ?_
 refine bV_ (ι:={y:Int // y=(if (bne (Ax.b x) [])=true then (nn4+1) else nn4)}) (fun y=>[(2,.int .i64 0),(3,.int .i64 y.1)]) (fun y=>((b1,.cells #[.int .i64 (Ax.kind x),.bool (Ax.opn x),.int .i64 (Con.kind (Ax.left x)),str (Con.name (Ax.left x)),.int .i64 (Con.lo (Ax.left x)),.int .i64 (Con.hi (Ax.left x)),.slice (Con.ad (Ax.left x)) (List.length (Con.parts (Ax.left x))) (Con.cap (Ax.left x)),.int .i64 (Con.kind (Ax.right x)),str (Con.name (Ax.right x)),.int .i64 (Con.lo (Ax.right x)),.int .i64 (Con.hi (Ax.right x)),.slice (Con.ad (Ax.right x)) (List.length (Con.parts (Ax.right x))) (Con.cap (Ax.right x)),.slice (Ax.ad x) (List.length (Ax.roles x)) (Ax.cap x),str (Ax.role x),str (Ax.a x),str (Ax.b x)] 48 (0,0))::[])) (fun y=>[Ax.memF x]) ?_ ?_
 ·cases r5
  ·replace hr5:=cy_ hr5
   refine Zz 3 ?_
   exact aC_ ⟨nn4,(by rw[if_neg (by simpa using hr5)])⟩ zl t_ zf
  replace hr5:=cw_ hr5
  refine Zz 7 ?_
  exact aC_ ⟨(nn4+1),(by rw[if_pos (by simpa using hr5)])⟩ zl t_ zf
 rintro ⟨nn5,hnn5⟩
 dsimp only
 have hbw5:nn5≤8796093021952+5*1001∧0≤nn5:=by have q:=hnn5;split at q<;>omega
 refine Zz 8 ?_
 exact G_ Tryz.results154 () (Y_ rfl (by unfold Ax.wgt;simp only[bne_iff_ne,ne_eq]at hnn1 hnn2 hnn3 hnn4 hnn5;rw[hnn5,hnn4,hnn3,hnn2,hnn1];(repeat' split)<;>first|omega|(exfalso;simp_all;done))) f_ zt
theorem qy_ (x w:Ax) (hok1:x.ok) (hok2:w.ok) (hz1l:x.left.sz≤1000) (hz1r:x.right.sz≤1000) (hz2l:w.left.sz≤1000) (hz2r:w.right.sz≤1000):Tri Tryz.prog 77 #[Ax.val x,Ax.val w] [] [Ax.memF x,Ax.memF w] (fun _:Unit=>.int .i64 (Ax.cmp x w)) (fun _=>[]) (fun _=>[]):=by
 refine o_ Tryz.func77 rfl rfl Tryz.ntmps77 rfl fun v0=>?_
 have hrl1:=hok1.len
 have hrc1:=hok1.cap
 have hrl2:=hok2.len
 have hrc2:=hok2.cap
 refine Zz 2 ?_
 refine ah_ rfl rfl fun b1=>ah_ rfl rfl fun b2=>Zz 5 ?_
 refine U_ 4 [0,2] zk zs (Zz 3 ?_)
 refine u_ 1 rfl zk (i_ (kB_ x hok1 hz1l hz1r) rfl f_ zf rfl fun _=>Zz 3 ?_)
 refine u_ 3 rfl zk (i_ (kB_ w hok2 hz2l hz2r) rfl f_ zf rfl fun _=>Zz 3 ?_)
 refine u_ 4 rfl zk (i_ (dC_ (Ax.wgt x) (Ax.wgt w)) rfl f_ zt rfl fun _=>Zz 3 ?_)
 refine U_ 0 [5] zk zs (Zz 8 ?_)
 refine s_ (V_ rfl rfl) rfl fun r1 hr1=>Zz 2 ?_
 refine bV_ (ι:={y:Int // y=orF ([(Lib.compareInt (Ax.wgt x) (Ax.wgt w))]++[(Lib.compareInt (Ax.kind x) (Ax.kind w))])}) (fun y=>[(2,zp_ b1 0),(3,zp_ b2 0),(4,.int .i64 0),(5,.int .i64 y.1)]) (fun y=>((b2,.cells #[.int .i64 (Ax.kind w),.bool (Ax.opn w),.int .i64 (Con.kind (Ax.left w)),str (Con.name (Ax.left w)),.int .i64 (Con.lo (Ax.left w)),.int .i64 (Con.hi (Ax.left w)),.slice (Con.ad (Ax.left w)) (List.length (Con.parts (Ax.left w))) (Con.cap (Ax.left w)),.int .i64 (Con.kind (Ax.right w)),str (Con.name (Ax.right w)),.int .i64 (Con.lo (Ax.right w)),.int .i64 (Con.hi (Ax.right w)),.slice (Con.ad (Ax.right w)) (List.length (Con.parts (Ax.right w))) (Con.cap (Ax.right w)),.slice (Ax.ad w) (List.length (Ax.roles w)) (Ax.cap w),str (Ax.role w),str (Ax.a w),str (Ax.b w)] 48 (0,0))::((b1,.cells #[.int .i64 (Ax.kind x),.bool (Ax.opn x),.int .i64 (Con.kind (Ax.left x)),str (Con.name (Ax.left x)),.int .i64 (Con.lo (Ax.left x)),.int .i64 (Con.hi (Ax.left x)),.slice (Con.ad (Ax.left x)) (List.length (Con.parts (Ax.left x))) (Con.cap (Ax.left x)),.int .i64 (Con.kind (Ax.right x)),str (Con.name (Ax.right x)),.int .i64 (Con.lo (Ax.right x)),.int .i64 (Con.hi (Ax.right x)),.slice (Con.ad (Ax.right x)) (List.length (Con.parts (Ax.right x))) (Con.cap (Ax.right x)),.slice (Ax.ad x) (List.length (Ax.roles x)) (Ax.cap x),str (Ax.role x),str (Ax.a x),str (Ax.b x)] 48 (0,0))::[]))) (fun y=>[Ax.memF x,Ax.memF w]) ?_ ?_
 ·cases r1
  ·replace hr1:=znb hr1
   refine Zz 3 ?_
   exact aC_ ⟨(Lib.compareInt (Ax.wgt x) (Ax.wgt w)),(dV_ (hW_ _).symm hr1)⟩ zl zp zf
  replace hr1:=zeb hr1
  refine Zz 6 ?_
  refine i_ (dC_ (Ax.kind x) (Ax.kind w)) rfl f_ zt rfl fun _=>Zz 3 ?_
  exact aC_ ⟨(Lib.compareInt (Ax.kind x) (Ax.kind w)),(dm_ (hW_ _).symm hr1)⟩ zl zp zf
 rintro ⟨nn1,hnn1⟩
 dsimp only
 refine Zz 5 ?_
 refine s_ (V_ rfl rfl) rfl fun r2 hr2=>Zz 2 ?_
 refine bV_ (ι:={y:Int // y=orF (([(Lib.compareInt (Ax.wgt x) (Ax.wgt w))]++[(Lib.compareInt (Ax.kind x) (Ax.kind w))])++[(Con.cmp (Ax.left x) (Ax.left w))])}) (fun y=>[(2,zp_ b1 0),(3,zp_ b2 0),(4,.int .i64 0),(5,.int .i64 y.1)]) (fun y=>((b2,.cells #[.int .i64 (Ax.kind w),.bool (Ax.opn w),.int .i64 (Con.kind (Ax.left w)),str (Con.name (Ax.left w)),.int .i64 (Con.lo (Ax.left w)),.int .i64 (Con.hi (Ax.left w)),.slice (Con.ad (Ax.left w)) (List.length (Con.parts (Ax.left w))) (Con.cap (Ax.left w)),.int .i64 (Con.kind (Ax.right w)),str (Con.name (Ax.right w)),.int .i64 (Con.lo (Ax.right w)),.int .i64 (Con.hi (Ax.right w)),.slice (Con.ad (Ax.right w)) (List.length (Con.parts (Ax.right w))) (Con.cap (Ax.right w)),.slice (Ax.ad w) (List.length (Ax.roles w)) (Ax.cap w),str (Ax.role w),str (Ax.a w),str (Ax.b w)] 48 (0,0))::((b1,.cells #[.int .i64 (Ax.kind x),.bool (Ax.opn x),.int .i64 (Con.kind (Ax.left x)),str (Con.name (Ax.left x)),.int .i64 (Con.lo (Ax.left x)),.int .i64 (Con.hi (Ax.left x)),.slice (Con.ad (Ax.left x)) (List.length (Con.parts (Ax.left x))) (Con.cap (Ax.left x)),.int .i64 (Con.kind (Ax.right x)),str (Con.name (Ax.right x)),.int .i64 (Con.lo (Ax.right x)),.int .i64 (Con.hi (Ax.right x)),.slice (Con.ad (Ax.right x)) (List.length (Con.parts (Ax.right x))) (Con.cap (Ax.right x)),.slice (Ax.ad x) (List.length (Ax.roles x)) (Ax.cap x),str (Ax.role x),str (Ax.a x),str (Ax.b x)] 48 (0,0))::[]))) (fun y=>[Ax.memF x,Ax.memF w]) ?_ ?_
 ·cases r2
  ·replace hr2:=znb hr2
   refine Zz 3 ?_
   exact aC_ ⟨nn1,(dV_ hnn1 hr2)⟩ zl zp zf
  replace hr2:=zeb hr2
  refine Zz 6 ?_
  refine i_ (qx_ _ (Ax.left x) (Ax.left w) (Nat.le_refl _) hok1.left hok2.left hz1l hz2l) rfl f_ (fun v _ h=>by exact⟨h.1.1,h.2.1.1,trivial⟩) rfl fun _=>Zz 3 ?_
  exact aC_ ⟨(Con.cmp (Ax.left x) (Ax.left w)),(dm_ hnn1 hr2)⟩ zl zp zf
 rintro ⟨nn2,hnn2⟩
 dsimp only
 refine Zz 5 ?_
 refine s_ (V_ rfl rfl) rfl fun r3 hr3=>Zz 2 ?_
 refine bV_ (ι:={y:Int // y=orF ((([(Lib.compareInt (Ax.wgt x) (Ax.wgt w))]++[(Lib.compareInt (Ax.kind x) (Ax.kind w))])++[(Con.cmp (Ax.left x) (Ax.left w))])++[(Con.cmp (Ax.right x) (Ax.right w))])}) (fun y=>[(2,zp_ b1 0),(3,zp_ b2 0),(4,.int .i64 0),(5,.int .i64 y.1)]) (fun y=>((b2,.cells #[.int .i64 (Ax.kind w),.bool (Ax.opn w),.int .i64 (Con.kind (Ax.left w)),str (Con.name (Ax.left w)),.int .i64 (Con.lo (Ax.left w)),.int .i64 (Con.hi (Ax.left w)),.slice (Con.ad (Ax.left w)) (List.length (Con.parts (Ax.left w))) (Con.cap (Ax.left w)),.int .i64 (Con.kind (Ax.right w)),str (Con.name (Ax.right w)),.int .i64 (Con.lo (Ax.right w)),.int .i64 (Con.hi (Ax.right w)),.slice (Con.ad (Ax.right w)) (List.length (Con.parts (Ax.right w))) (Con.cap (Ax.right w)),.slice (Ax.ad w) (List.length (Ax.roles w)) (Ax.cap w),str (Ax.role w),str (Ax.a w),str (Ax.b w)] 48 (0,0))::((b1,.cells #[.int .i64 (Ax.kind x),.bool (Ax.opn x),.int .i64 (Con.kind (Ax.left x)),str (Con.name (Ax.left x)),.int .i64 (Con.lo (Ax.left x)),.int .i64 (Con.hi (Ax.left x)),.slice (Con.ad (Ax.left x)) (List.length (Con.parts (Ax.left x))) (Con.cap (Ax.left x)),.int .i64 (Con.kind (Ax.right x)),str (Con.name (Ax.right x)),.int .i64 (Con.lo (Ax.right x)),.int .i64 (Con.hi (Ax.right x)),.slice (Con.ad (Ax.right x)) (List.length (Con.parts (Ax.right x))) (Con.cap (Ax.right x)),.slice (Ax.ad x) (List.length (Ax.roles x)) (Ax.cap x),str (Ax.role x),str (Ax.a x),str (Ax.b x)] 48 (0,0))::[]))) (fun y=>[Ax.memF x,Ax.memF w]) ?_ ?_
 ·cases r3
  ·replace hr3:=znb hr3
   refine Zz 3 ?_
   exact aC_ ⟨nn2,(dV_ hnn2 hr3)⟩ zl zp zf
  replace hr3:=zeb hr3
  refine Zz 6 ?_
  refine i_ (qx_ _ (Ax.right x) (Ax.right w) (Nat.le_refl _) hok1.right hok2.right hz1r hz2r) rfl f_ (fun v _ h=>by exact⟨h.1.2.1,h.2.1.2.1,trivial⟩) rfl fun _=>Zz 3 ?_
  exact aC_ ⟨(Con.cmp (Ax.right x) (Ax.right w)),(dm_ hnn2 hr3)⟩ zl zp zf
 rintro ⟨nn3,hnn3⟩
 dsimp only
 refine Zz 8 ?_
 refine aO_ (ι:={y:Nat×Int // fE_ nn3 y.2 (dA_ (Ax.roles x) (Ax.roles w)) (dA_ (List.drop y.1 (Ax.roles x)) (List.drop y.1 (Ax.roles w))) (y.1≤List.length (Ax.roles x)∧y.1≤List.length (Ax.roles w))}) (fun y=>[(2,zp_ b1 0),(3,zp_ b2 0),(4,.int .i64 0),(5,.int .i64 y.1.2),(6,.int .i64 (y.1.1:Int))]) (fun y=>((b2,.cells #[.int .i64 (Ax.kind w),.bool (Ax.opn w),.int .i64 (Con.kind (Ax.left w)),str (Con.name (Ax.left w)),.int .i64 (Con.lo (Ax.left w)),.int .i64 (Con.hi (Ax.left w)),.slice (Con.ad (Ax.left w)) (List.length (Con.parts (Ax.left w))) (Con.cap (Ax.left w)),.int .i64 (Con.kind (Ax.right w)),str (Con.name (Ax.right w)),.int .i64 (Con.lo (Ax.right w)),.int .i64 (Con.hi (Ax.right w)),.slice (Con.ad (Ax.right w)) (List.length (Con.parts (Ax.right w))) (Con.cap (Ax.right w)),.slice (Ax.ad w) (List.length (Ax.roles w)) (Ax.cap w),str (Ax.role w),str (Ax.a w),str (Ax.b w)] 48 (0,0))::((b1,.cells #[.int .i64 (Ax.kind x),.bool (Ax.opn x),.int .i64 (Con.kind (Ax.left x)),str (Con.name (Ax.left x)),.int .i64 (Con.lo (Ax.left x)),.int .i64 (Con.hi (Ax.left x)),.slice (Con.ad (Ax.left x)) (List.length (Con.parts (Ax.left x))) (Con.cap (Ax.left x)),.int .i64 (Con.kind (Ax.right x)),str (Con.name (Ax.right x)),.int .i64 (Con.lo (Ax.right x)),.int .i64 (Con.hi (Ax.right x)),.slice (Con.ad (Ax.right x)) (List.length (Con.parts (Ax.right x))) (Con.cap (Ax.right x)),.slice (Ax.ad x) (List.length (Ax.roles x)) (Ax.cap x),str (Ax.role x),str (Ax.a x),str (Ax.b x)] 48 (0,0))::[]))) (fun y=>[Ax.memF x,Ax.memF w]) (fun y=>List.length (Ax.roles x) - y.1.1) ⟨((0:Nat),nn3),(fE_.init ⟨Nat.zero_le _,Nat.zero_le _⟩)⟩ zl zp zh ?_
 rintro ⟨⟨i,n⟩,hlx⟩
 dsimp only at hlx ⊢
 refine Zi 4 (fun hr4=>?_) fun hr4=>?_
 ·refine Zz 23 ?_
  refine s_ (V_ rfl rfl) rfl fun r5 hr5=>Zz 2 ?_
  refine bV_ (ι:={y:Int // y=(if n=0 then (Lib.compareInt (List.length (Ax.roles x):Int) (List.length (Ax.roles w):Int)) else n)}) (fun y=>[(2,zp_ b1 0),(3,zp_ b2 0),(4,.int .i64 0),(6,.int .i64 (i:Int)),(5,.int .i64 y.1)]) (fun y=>((b2,.cells #[.int .i64 (Ax.kind w),.bool (Ax.opn w),.int .i64 (Con.kind (Ax.left w)),str (Con.name (Ax.left w)),.int .i64 (Con.lo (Ax.left w)),.int .i64 (Con.hi (Ax.left w)),.slice (Con.ad (Ax.left w)) (List.length (Con.parts (Ax.left w))) (Con.cap (Ax.left w)),.int .i64 (Con.kind (Ax.right w)),str (Con.name (Ax.right w)),.int .i64 (Con.lo (Ax.right w)),.int .i64 (Con.hi (Ax.right w)),.slice (Con.ad (Ax.right w)) (List.length (Con.parts (Ax.right w))) (Con.cap (Ax.right w)),.slice (Ax.ad w) (List.length (Ax.roles w)) (Ax.cap w),str (Ax.role w),str (Ax.a w),str (Ax.b w)] 48 (0,0))::((b1,.cells #[.int .i64 (Ax.kind x),.bool (Ax.opn x),.int .i64 (Con.kind (Ax.left x)),str (Con.name (Ax.left x)),.int .i64 (Con.lo (Ax.left x)),.int .i64 (Con.hi (Ax.left x)),.slice (Con.ad (Ax.left x)) (List.length (Con.parts (Ax.left x))) (Con.cap (Ax.left x)),.int .i64 (Con.kind (Ax.right x)),str (Con.name (Ax.right x)),.int .i64 (Con.lo (Ax.right x)),.int .i64 (Con.hi (Ax.right x)),.slice (Con.ad (Ax.right x)) (List.length (Con.parts (Ax.right x))) (Con.cap (Ax.right x)),.slice (Ax.ad x) (List.length (Ax.roles x)) (Ax.cap x),str (Ax.role x),str (Ax.a x),str (Ax.b x)] 48 (0,0))::[]))) (fun y=>[Ax.memF x,Ax.memF w]) ?_ ?_
  ·cases r5
   ·replace hr5:=znb hr5
    refine Zz 3 ?_
    exact aC_ ⟨n,(by rw[if_neg hr5])⟩ zl zp zf
   replace hr5:=zeb hr5
   refine Zz 8 ?_
   refine i_ (dC_ (List.length (Ax.roles x):Int) (List.length (Ax.roles w):Int)) rfl f_ zt rfl fun _=>Zz 3 ?_
   exact aC_ ⟨(Lib.compareInt (List.length (Ax.roles x):Int) (List.length (Ax.roles w):Int)),(by rw[if_pos hr5])⟩ zl zp zf
  rintro ⟨nn4,hnn4⟩
  dsimp only
  have hor4:=fE_.or (o:=(Lib.compareInt (List.length (Ax.roles x):Int) (List.length (Ax.roles w):Int))) hlx hnn3 (fun hn hv ha=>jU_ ha.1 ha.2 (by first|(left;omega)|(right;omega)))
  rw[← hnn4]at hor4
  refine Zz 5 ?_
  refine s_ (V_ rfl rfl) rfl fun r6 hr6=>Zz 2 ?_
  refine bV_ (ι:={y:Int // y=orF ((((([(Lib.compareInt (Ax.wgt x) (Ax.wgt w))]++[(Lib.compareInt (Ax.kind x) (Ax.kind w))])++[(Con.cmp (Ax.left x) (Ax.left w))])++[(Con.cmp (Ax.right x) (Ax.right w))])++[dA_ (Ax.roles x) (Ax.roles w)])++[(Lib.compareBytes (Ax.role x) (Ax.role w))])}) (fun y=>[(2,zp_ b1 0),(3,zp_ b2 0),(4,.int .i64 0),(6,.int .i64 (i:Int)),(5,.int .i64 y.1)]) (fun y=>((b2,.cells #[.int .i64 (Ax.kind w),.bool (Ax.opn w),.int .i64 (Con.kind (Ax.left w)),str (Con.name (Ax.left w)),.int .i64 (Con.lo (Ax.left w)),.int .i64 (Con.hi (Ax.left w)),.slice (Con.ad (Ax.left w)) (List.length (Con.parts (Ax.left w))) (Con.cap (Ax.left w)),.int .i64 (Con.kind (Ax.right w)),str (Con.name (Ax.right w)),.int .i64 (Con.lo (Ax.right w)),.int .i64 (Con.hi (Ax.right w)),.slice (Con.ad (Ax.right w)) (List.length (Con.parts (Ax.right w))) (Con.cap (Ax.right w)),.slice (Ax.ad w) (List.length (Ax.roles w)) (Ax.cap w),str (Ax.role w),str (Ax.a w),str (Ax.b w)] 48 (0,0))::((b1,.cells #[.int .i64 (Ax.kind x),.bool (Ax.opn x),.int .i64 (Con.kind (Ax.left x)),str (Con.name (Ax.left x)),.int .i64 (Con.lo (Ax.left x)),.int .i64 (Con.hi (Ax.left x)),.slice (Con.ad (Ax.left x)) (List.length (Con.parts (Ax.left x))) (Con.cap (Ax.left x)),.int .i64 (Con.kind (Ax.right x)),str (Con.name (Ax.right x)),.int .i64 (Con.lo (Ax.right x)),.int .i64 (Con.hi (Ax.right x)),.slice (Con.ad (Ax.right x)) (List.length (Con.parts (Ax.right x))) (Con.cap (Ax.right x)),.slice (Ax.ad x) (List.length (Ax.roles x)) (Ax.cap x),str (Ax.role x),str (Ax.a x),str (Ax.b x)] 48 (0,0))::[]))) (fun y=>[Ax.memF x,Ax.memF w]) ?_ ?_
  ·cases r6
   ·replace hr6:=znb hr6
    refine Zz 3 ?_
    exact aC_ ⟨nn4,(dV_ hor4 hr6)⟩ zl zp zf
   replace hr6:=zeb hr6
   refine Zz 6 ?_
   refine i_ (cR_ (Ax.role x) (Ax.role w)) rfl f_ zt rfl fun _=>Zz 3 ?_
   exact aC_ ⟨(Lib.compareBytes (Ax.role x) (Ax.role w)),(dm_ hor4 hr6)⟩ zl zp zf
  rintro ⟨nn5,hnn5⟩
  dsimp only
  refine Zz 5 ?_
  refine s_ (V_ rfl rfl) rfl fun r7 hr7=>Zz 2 ?_
  refine bV_ (ι:={y:Int // y=orF (((((([(Lib.compareInt (Ax.wgt x) (Ax.wgt w))]++[(Lib.compareInt (Ax.kind x) (Ax.kind w))])++[(Con.cmp (Ax.left x) (Ax.left w))])++[(Con.cmp (Ax.right x) (Ax.right w))])++[dA_ (Ax.roles x) (Ax.roles w)])++[(Lib.compareBytes (Ax.role x) (Ax.role w))])++[(Lib.compareBytes (Ax.a x) (Ax.a w))])}) (fun y=>[(2,zp_ b1 0),(3,zp_ b2 0),(4,.int .i64 0),(6,.int .i64 (i:Int)),(5,.int .i64 y.1)]) (fun y=>((b2,.cells #[.int .i64 (Ax.kind w),.bool (Ax.opn w),.int .i64 (Con.kind (Ax.left w)),str (Con.name (Ax.left w)),.int .i64 (Con.lo (Ax.left w)),.int .i64 (Con.hi (Ax.left w)),.slice (Con.ad (Ax.left w)) (List.length (Con.parts (Ax.left w))) (Con.cap (Ax.left w)),.int .i64 (Con.kind (Ax.right w)),str (Con.name (Ax.right w)),.int .i64 (Con.lo (Ax.right w)),.int .i64 (Con.hi (Ax.right w)),.slice (Con.ad (Ax.right w)) (List.length (Con.parts (Ax.right w))) (Con.cap (Ax.right w)),.slice (Ax.ad w) (List.length (Ax.roles w)) (Ax.cap w),str (Ax.role w),str (Ax.a w),str (Ax.b w)] 48 (0,0))::((b1,.cells #[.int .i64 (Ax.kind x),.bool (Ax.opn x),.int .i64 (Con.kind (Ax.left x)),str (Con.name (Ax.left x)),.int .i64 (Con.lo (Ax.left x)),.int .i64 (Con.hi (Ax.left x)),.slice (Con.ad (Ax.left x)) (List.length (Con.parts (Ax.left x))) (Con.cap (Ax.left x)),.int .i64 (Con.kind (Ax.right x)),str (Con.name (Ax.right x)),.int .i64 (Con.lo (Ax.right x)),.int .i64 (Con.hi (Ax.right x)),.slice (Con.ad (Ax.right x)) (List.length (Con.parts (Ax.right x))) (Con.cap (Ax.right x)),.slice (Ax.ad x) (List.length (Ax.roles x)) (Ax.cap x),str (Ax.role x),str (Ax.a x),str (Ax.b x)] 48 (0,0))::[]))) (fun y=>[Ax.memF x,Ax.memF w]) ?_ ?_
  ·cases r7
   ·replace hr7:=znb hr7
    refine Zz 3 ?_
    exact aC_ ⟨nn5,(dV_ hnn5 hr7)⟩ zl zp zf
   replace hr7:=zeb hr7
   refine Zz 6 ?_
   refine i_ (cR_ (Ax.a x) (Ax.a w)) rfl f_ zt rfl fun _=>Zz 3 ?_
   exact aC_ ⟨(Lib.compareBytes (Ax.a x) (Ax.a w)),(dm_ hnn5 hr7)⟩ zl zp zf
  rintro ⟨nn6,hnn6⟩
  dsimp only
  refine Zz 5 ?_
  refine s_ (V_ rfl rfl) rfl fun r8 hr8=>Zz 2 ?_
  refine bV_ (ι:={y:Int // y=orF ((((((([(Lib.compareInt (Ax.wgt x) (Ax.wgt w))]++[(Lib.compareInt (Ax.kind x) (Ax.kind w))])++[(Con.cmp (Ax.left x) (Ax.left w))])++[(Con.cmp (Ax.right x) (Ax.right w))])++[dA_ (Ax.roles x) (Ax.roles w)])++[(Lib.compareBytes (Ax.role x) (Ax.role w))])++[(Lib.compareBytes (Ax.a x) (Ax.a w))])++[(Lib.compareBytes (Ax.b x) (Ax.b w))])}) (fun y=>[(2,zp_ b1 0),(3,zp_ b2 0),(4,.int .i64 0),(6,.int .i64 (i:Int)),(5,.int .i64 y.1)]) (fun y=>((b2,.cells #[.int .i64 (Ax.kind w),.bool (Ax.opn w),.int .i64 (Con.kind (Ax.left w)),str (Con.name (Ax.left w)),.int .i64 (Con.lo (Ax.left w)),.int .i64 (Con.hi (Ax.left w)),.slice (Con.ad (Ax.left w)) (List.length (Con.parts (Ax.left w))) (Con.cap (Ax.left w)),.int .i64 (Con.kind (Ax.right w)),str (Con.name (Ax.right w)),.int .i64 (Con.lo (Ax.right w)),.int .i64 (Con.hi (Ax.right w)),.slice (Con.ad (Ax.right w)) (List.length (Con.parts (Ax.right w))) (Con.cap (Ax.right w)),.slice (Ax.ad w) (List.length (Ax.roles w)) (Ax.cap w),str (Ax.role w),str (Ax.a w),str (Ax.b w)] 48 (0,0))::((b1,.cells #[.int .i64 (Ax.kind x),.bool (Ax.opn x),.int .i64 (Con.kind (Ax.left x)),str (Con.name (Ax.left x)),.int .i64 (Con.lo (Ax.left x)),.int .i64 (Con.hi (Ax.left x)),.slice (Con.ad (Ax.left x)) (List.length (Con.parts (Ax.left x))) (Con.cap (Ax.left x)),.int .i64 (Con.kind (Ax.right x)),str (Con.name (Ax.right x)),.int .i64 (Con.lo (Ax.right x)),.int .i64 (Con.hi (Ax.right x)),.slice (Con.ad (Ax.right x)) (List.length (Con.parts (Ax.right x))) (Con.cap (Ax.right x)),.slice (Ax.ad x) (List.length (Ax.roles x)) (Ax.cap x),str (Ax.role x),str (Ax.a x),str (Ax.b x)] 48 (0,0))::[]))) (fun y=>[Ax.memF x,Ax.memF w]) ?_ ?_
  ·cases r8
   ·replace hr8:=znb hr8
    refine Zz 3 ?_
    exact aC_ ⟨nn6,(dV_ hnn6 hr8)⟩ zl zp zf
   replace hr8:=zeb hr8
   refine Zz 6 ?_
   refine i_ (cR_ (Ax.b x) (Ax.b w)) rfl f_ zt rfl fun _=>Zz 3 ?_
   exact aC_ ⟨(Lib.compareBytes (Ax.b x) (Ax.b w)),(dm_ hnn6 hr8)⟩ zl zp zf
  rintro ⟨nn7,hnn7⟩
  dsimp only
  refine Zz 8 ?_
  exact G_ Tryz.results77 () (Y_ rfl (by rw[hnn7];exact rfl)) f_ zt
 refine Zi 10 (fun hr9=>?_) fun hr9=>?_
 ·refine Zz 17 ?_
  refine s_ (V_ rfl rfl) rfl fun r10 hr10=>Zz 2 ?_
  refine bV_ (ι:={y:Int // y=(if n=0 then (Lib.compareInt (List.length (Ax.roles x):Int) (List.length (Ax.roles w):Int)) else n)}) (fun y=>[(2,zp_ b1 0),(3,zp_ b2 0),(4,.int .i64 0),(6,.int .i64 (i:Int)),(5,.int .i64 y.1)]) (fun y=>((b2,.cells #[.int .i64 (Ax.kind w),.bool (Ax.opn w),.int .i64 (Con.kind (Ax.left w)),str (Con.name (Ax.left w)),.int .i64 (Con.lo (Ax.left w)),.int .i64 (Con.hi (Ax.left w)),.slice (Con.ad (Ax.left w)) (List.length (Con.parts (Ax.left w))) (Con.cap (Ax.left w)),.int .i64 (Con.kind (Ax.right w)),str (Con.name (Ax.right w)),.int .i64 (Con.lo (Ax.right w)),.int .i64 (Con.hi (Ax.right w)),.slice (Con.ad (Ax.right w)) (List.length (Con.parts (Ax.right w))) (Con.cap (Ax.right w)),.slice (Ax.ad w) (List.length (Ax.roles w)) (Ax.cap w),str (Ax.role w),str (Ax.a w),str (Ax.b w)] 48 (0,0))::((b1,.cells #[.int .i64 (Ax.kind x),.bool (Ax.opn x),.int .i64 (Con.kind (Ax.left x)),str (Con.name (Ax.left x)),.int .i64 (Con.lo (Ax.left x)),.int .i64 (Con.hi (Ax.left x)),.slice (Con.ad (Ax.left x)) (List.length (Con.parts (Ax.left x))) (Con.cap (Ax.left x)),.int .i64 (Con.kind (Ax.right x)),str (Con.name (Ax.right x)),.int .i64 (Con.lo (Ax.right x)),.int .i64 (Con.hi (Ax.right x)),.slice (Con.ad (Ax.right x)) (List.length (Con.parts (Ax.right x))) (Con.cap (Ax.right x)),.slice (Ax.ad x) (List.length (Ax.roles x)) (Ax.cap x),str (Ax.role x),str (Ax.a x),str (Ax.b x)] 48 (0,0))::[]))) (fun y=>[Ax.memF x,Ax.memF w]) ?_ ?_
  ·cases r10
   ·replace hr10:=znb hr10
    refine Zz 3 ?_
    exact aC_ ⟨n,(by rw[if_neg hr10])⟩ zl zp zf
   replace hr10:=zeb hr10
   refine Zz 8 ?_
   refine i_ (dC_ (List.length (Ax.roles x):Int) (List.length (Ax.roles w):Int)) rfl f_ zt rfl fun _=>Zz 3 ?_
   exact aC_ ⟨(Lib.compareInt (List.length (Ax.roles x):Int) (List.length (Ax.roles w):Int)),(by rw[if_pos hr10])⟩ zl zp zf
  rintro ⟨nn8,hnn8⟩
  dsimp only
  have hor8:=fE_.or (o:=(Lib.compareInt (List.length (Ax.roles x):Int) (List.length (Ax.roles w):Int))) hlx hnn3 (fun hn hv ha=>jU_ ha.1 ha.2 (by first|(left;omega)|(right;omega)))
  rw[← hnn8]at hor8
  refine Zz 5 ?_
  refine s_ (V_ rfl rfl) rfl fun r11 hr11=>Zz 2 ?_
  refine bV_ (ι:={y:Int // y=orF ((((([(Lib.compareInt (Ax.wgt x) (Ax.wgt w))]++[(Lib.compareInt (Ax.kind x) (Ax.kind w))])++[(Con.cmp (Ax.left x) (Ax.left w))])++[(Con.cmp (Ax.right x) (Ax.right w))])++[dA_ (Ax.roles x) (Ax.roles w)])++[(Lib.compareBytes (Ax.role x) (Ax.role w))])}) (fun y=>[(2,zp_ b1 0),(3,zp_ b2 0),(4,.int .i64 0),(6,.int .i64 (i:Int)),(5,.int .i64 y.1)]) (fun y=>((b2,.cells #[.int .i64 (Ax.kind w),.bool (Ax.opn w),.int .i64 (Con.kind (Ax.left w)),str (Con.name (Ax.left w)),.int .i64 (Con.lo (Ax.left w)),.int .i64 (Con.hi (Ax.left w)),.slice (Con.ad (Ax.left w)) (List.length (Con.parts (Ax.left w))) (Con.cap (Ax.left w)),.int .i64 (Con.kind (Ax.right w)),str (Con.name (Ax.right w)),.int .i64 (Con.lo (Ax.right w)),.int .i64 (Con.hi (Ax.right w)),.slice (Con.ad (Ax.right w)) (List.length (Con.parts (Ax.right w))) (Con.cap (Ax.right w)),.slice (Ax.ad w) (List.length (Ax.roles w)) (Ax.cap w),str (Ax.role w),str (Ax.a w),str (Ax.b w)] 48 (0,0))::((b1,.cells #[.int .i64 (Ax.kind x),.bool (Ax.opn x),.int .i64 (Con.kind (Ax.left x)),str (Con.name (Ax.left x)),.int .i64 (Con.lo (Ax.left x)),.int .i64 (Con.hi (Ax.left x)),.slice (Con.ad (Ax.left x)) (List.length (Con.parts (Ax.left x))) (Con.cap (Ax.left x)),.int .i64 (Con.kind (Ax.right x)),str (Con.name (Ax.right x)),.int .i64 (Con.lo (Ax.right x)),.int .i64 (Con.hi (Ax.right x)),.slice (Con.ad (Ax.right x)) (List.length (Con.parts (Ax.right x))) (Con.cap (Ax.right x)),.slice (Ax.ad x) (List.length (Ax.roles x)) (Ax.cap x),str (Ax.role x),str (Ax.a x),str (Ax.b x)] 48 (0,0))::[]))) (fun y=>[Ax.memF x,Ax.memF w]) ?_ ?_
  ·cases r11
   ·replace hr11:=znb hr11
    refine Zz 3 ?_
    exact aC_ ⟨nn8,(dV_ hor8 hr11)⟩ zl zp zf
   replace hr11:=zeb hr11
   refine Zz 6 ?_
   refine i_ (cR_ (Ax.role x) (Ax.role w)) rfl f_ zt rfl fun _=>Zz 3 ?_
   exact aC_ ⟨(Lib.compareBytes (Ax.role x) (Ax.role w)),(dm_ hor8 hr11)⟩ zl zp zf
  rintro ⟨nn9,hnn9⟩
  dsimp only
  refine Zz 5 ?_
  refine s_ (V_ rfl rfl) rfl fun r12 hr12=>Zz 2 ?_
  refine bV_ (ι:={y:Int // y=orF (((((([(Lib.compareInt (Ax.wgt x) (Ax.wgt w))]++[(Lib.compareInt (Ax.kind x) (Ax.kind w))])++[(Con.cmp (Ax.left x) (Ax.left w))])++[(Con.cmp (Ax.right x) (Ax.right w))])++[dA_ (Ax.roles x) (Ax.roles w)])++[(Lib.compareBytes (Ax.role x) (Ax.role w))])++[(Lib.compareBytes (Ax.a x) (Ax.a w))])}) (fun y=>[(2,zp_ b1 0),(3,zp_ b2 0),(4,.int .i64 0),(6,.int .i64 (i:Int)),(5,.int .i64 y.1)]) (fun y=>((b2,.cells #[.int .i64 (Ax.kind w),.bool (Ax.opn w),.int .i64 (Con.kind (Ax.left w)),str (Con.name (Ax.left w)),.int .i64 (Con.lo (Ax.left w)),.int .i64 (Con.hi (Ax.left w)),.slice (Con.ad (Ax.left w)) (List.length (Con.parts (Ax.left w))) (Con.cap (Ax.left w)),.int .i64 (Con.kind (Ax.right w)),str (Con.name (Ax.right w)),.int .i64 (Con.lo (Ax.right w)),.int .i64 (Con.hi (Ax.right w)),.slice (Con.ad (Ax.right w)) (List.length (Con.parts (Ax.right w))) (Con.cap (Ax.right w)),.slice (Ax.ad w) (List.length (Ax.roles w)) (Ax.cap w),str (Ax.role w),str (Ax.a w),str (Ax.b w)] 48 (0,0))::((b1,.cells #[.int .i64 (Ax.kind x),.bool (Ax.opn x),.int .i64 (Con.kind (Ax.left x)),str (Con.name (Ax.left x)),.int .i64 (Con.lo (Ax.left x)),.int .i64 (Con.hi (Ax.left x)),.slice (Con.ad (Ax.left x)) (List.length (Con.parts (Ax.left x))) (Con.cap (Ax.left x)),.int .i64 (Con.kind (Ax.right x)),str (Con.name (Ax.right x)),.int .i64 (Con.lo (Ax.right x)),.int .i64 (Con.hi (Ax.right x)),.slice (Con.ad (Ax.right x)) (List.length (Con.parts (Ax.right x))) (Con.cap (Ax.right x)),.slice (Ax.ad x) (List.length (Ax.roles x)) (Ax.cap x),str (Ax.role x),str (Ax.a x),str (Ax.b x)] 48 (0,0))::[]))) (fun y=>[Ax.memF x,Ax.memF w]) ?_ ?_
  ·cases r12
   ·replace hr12:=znb hr12
    refine Zz 3 ?_
    exact aC_ ⟨nn9,(dV_ hnn9 hr12)⟩ zl zp zf
   replace hr12:=zeb hr12
   refine Zz 6 ?_
   refine i_ (cR_ (Ax.a x) (Ax.a w)) rfl f_ zt rfl fun _=>Zz 3 ?_
   exact aC_ ⟨(Lib.compareBytes (Ax.a x) (Ax.a w)),(dm_ hnn9 hr12)⟩ zl zp zf
  rintro ⟨nn10,hnn10⟩
  dsimp only
  refine Zz 5 ?_
  refine s_ (V_ rfl rfl) rfl fun r13 hr13=>Zz 2 ?_
  refine bV_ (ι:={y:Int // y=orF ((((((([(Lib.compareInt (Ax.wgt x) (Ax.wgt w))]++[(Lib.compareInt (Ax.kind x) (Ax.kind w))])++[(Con.cmp (Ax.left x) (Ax.left w))])++[(Con.cmp (Ax.right x) (Ax.right w))])++[dA_ (Ax.roles x) (Ax.roles w)])++[(Lib.compareBytes (Ax.role x) (Ax.role w))])++[(Lib.compareBytes (Ax.a x) (Ax.a w))])++[(Lib.compareBytes (Ax.b x) (Ax.b w))])}) (fun y=>[(2,zp_ b1 0),(3,zp_ b2 0),(4,.int .i64 0),(6,.int .i64 (i:Int)),(5,.int .i64 y.1)]) (fun y=>((b2,.cells #[.int .i64 (Ax.kind w),.bool (Ax.opn w),.int .i64 (Con.kind (Ax.left w)),str (Con.name (Ax.left w)),.int .i64 (Con.lo (Ax.left w)),.int .i64 (Con.hi (Ax.left w)),.slice (Con.ad (Ax.left w)) (List.length (Con.parts (Ax.left w))) (Con.cap (Ax.left w)),.int .i64 (Con.kind (Ax.right w)),str (Con.name (Ax.right w)),.int .i64 (Con.lo (Ax.right w)),.int .i64 (Con.hi (Ax.right w)),.slice (Con.ad (Ax.right w)) (List.length (Con.parts (Ax.right w))) (Con.cap (Ax.right w)),.slice (Ax.ad w) (List.length (Ax.roles w)) (Ax.cap w),str (Ax.role w),str (Ax.a w),str (Ax.b w)] 48 (0,0))::((b1,.cells #[.int .i64 (Ax.kind x),.bool (Ax.opn x),.int .i64 (Con.kind (Ax.left x)),str (Con.name (Ax.left x)),.int .i64 (Con.lo (Ax.left x)),.int .i64 (Con.hi (Ax.left x)),.slice (Con.ad (Ax.left x)) (List.length (Con.parts (Ax.left x))) (Con.cap (Ax.left x)),.int .i64 (Con.kind (Ax.right x)),str (Con.name (Ax.right x)),.int .i64 (Con.lo (Ax.right x)),.int .i64 (Con.hi (Ax.right x)),.slice (Con.ad (Ax.right x)) (List.length (Con.parts (Ax.right x))) (Con.cap (Ax.right x)),.slice (Ax.ad x) (List.length (Ax.roles x)) (Ax.cap x),str (Ax.role x),str (Ax.a x),str (Ax.b x)] 48 (0,0))::[]))) (fun y=>[Ax.memF x,Ax.memF w]) ?_ ?_
  ·cases r13
   ·replace hr13:=znb hr13
    refine Zz 3 ?_
    exact aC_ ⟨nn10,(dV_ hnn10 hr13)⟩ zl zp zf
   replace hr13:=zeb hr13
   refine Zz 6 ?_
   refine i_ (cR_ (Ax.b x) (Ax.b w)) rfl f_ zt rfl fun _=>Zz 3 ?_
   exact aC_ ⟨(Lib.compareBytes (Ax.b x) (Ax.b w)),(dm_ hnn10 hr13)⟩ zl zp zf
  rintro ⟨nn11,hnn11⟩
  dsimp only
  refine Zz 8 ?_
  exact G_ Tryz.results77 () (Y_ rfl (by rw[hnn11];exact rfl)) f_ zt
 refine Zi 11 (fun hr14=>?_) fun hr14=>?_
 ·refine Zz 10 ?_
  refine s_ (V_ rfl rfl) rfl fun r15 hr15=>Zz 2 ?_
  refine bV_ (ι:={y:Int // y=(if n=0 then (Lib.compareInt (List.length (Ax.roles x):Int) (List.length (Ax.roles w):Int)) else n)}) (fun y=>[(2,zp_ b1 0),(3,zp_ b2 0),(4,.int .i64 0),(6,.int .i64 (i:Int)),(5,.int .i64 y.1)]) (fun y=>((b2,.cells #[.int .i64 (Ax.kind w),.bool (Ax.opn w),.int .i64 (Con.kind (Ax.left w)),str (Con.name (Ax.left w)),.int .i64 (Con.lo (Ax.left w)),.int .i64 (Con.hi (Ax.left w)),.slice (Con.ad (Ax.left w)) (List.length (Con.parts (Ax.left w))) (Con.cap (Ax.left w)),.int .i64 (Con.kind (Ax.right w)),str (Con.name (Ax.right w)),.int .i64 (Con.lo (Ax.right w)),.int .i64 (Con.hi (Ax.right w)),.slice (Con.ad (Ax.right w)) (List.length (Con.parts (Ax.right w))) (Con.cap (Ax.right w)),.slice (Ax.ad w) (List.length (Ax.roles w)) (Ax.cap w),str (Ax.role w),str (Ax.a w),str (Ax.b w)] 48 (0,0))::((b1,.cells #[.int .i64 (Ax.kind x),.bool (Ax.opn x),.int .i64 (Con.kind (Ax.left x)),str (Con.name (Ax.left x)),.int .i64 (Con.lo (Ax.left x)),.int .i64 (Con.hi (Ax.left x)),.slice (Con.ad (Ax.left x)) (List.length (Con.parts (Ax.left x))) (Con.cap (Ax.left x)),.int .i64 (Con.kind (Ax.right x)),str (Con.name (Ax.right x)),.int .i64 (Con.lo (Ax.right x)),.int .i64 (Con.hi (Ax.right x)),.slice (Con.ad (Ax.right x)) (List.length (Con.parts (Ax.right x))) (Con.cap (Ax.right x)),.slice (Ax.ad x) (List.length (Ax.roles x)) (Ax.cap x),str (Ax.role x),str (Ax.a x),str (Ax.b x)] 48 (0,0))::[]))) (fun y=>[Ax.memF x,Ax.memF w]) ?_ ?_
  ·cases r15
   ·replace hr15:=znb hr15
    refine Zz 3 ?_
    exact aC_ ⟨n,(by rw[if_neg hr15])⟩ zl zp zf
   replace hr15:=zeb hr15
   refine Zz 8 ?_
   refine i_ (dC_ (List.length (Ax.roles x):Int) (List.length (Ax.roles w):Int)) rfl f_ zt rfl fun _=>Zz 3 ?_
   exact aC_ ⟨(Lib.compareInt (List.length (Ax.roles x):Int) (List.length (Ax.roles w):Int)),(by rw[if_pos hr15])⟩ zl zp zf
  rintro ⟨nn12,hnn12⟩
  dsimp only
  have hor12:=fE_.or (o:=(Lib.compareInt (List.length (Ax.roles x):Int) (List.length (Ax.roles w):Int))) hlx hnn3 (fun hn hv ha=>jU_ ha.1 ha.2 (by first|(left;omega)|(right;omega)))
  rw[← hnn12]at hor12
  refine Zz 5 ?_
  refine s_ (V_ rfl rfl) rfl fun r16 hr16=>Zz 2 ?_
  refine bV_ (ι:={y:Int // y=orF ((((([(Lib.compareInt (Ax.wgt x) (Ax.wgt w))]++[(Lib.compareInt (Ax.kind x) (Ax.kind w))])++[(Con.cmp (Ax.left x) (Ax.left w))])++[(Con.cmp (Ax.right x) (Ax.right w))])++[dA_ (Ax.roles x) (Ax.roles w)])++[(Lib.compareBytes (Ax.role x) (Ax.role w))])}) (fun y=>[(2,zp_ b1 0),(3,zp_ b2 0),(4,.int .i64 0),(6,.int .i64 (i:Int)),(5,.int .i64 y.1)]) (fun y=>((b2,.cells #[.int .i64 (Ax.kind w),.bool (Ax.opn w),.int .i64 (Con.kind (Ax.left w)),str (Con.name (Ax.left w)),.int .i64 (Con.lo (Ax.left w)),.int .i64 (Con.hi (Ax.left w)),.slice (Con.ad (Ax.left w)) (List.length (Con.parts (Ax.left w))) (Con.cap (Ax.left w)),.int .i64 (Con.kind (Ax.right w)),str (Con.name (Ax.right w)),.int .i64 (Con.lo (Ax.right w)),.int .i64 (Con.hi (Ax.right w)),.slice (Con.ad (Ax.right w)) (List.length (Con.parts (Ax.right w))) (Con.cap (Ax.right w)),.slice (Ax.ad w) (List.length (Ax.roles w)) (Ax.cap w),str (Ax.role w),str (Ax.a w),str (Ax.b w)] 48 (0,0))::((b1,.cells #[.int .i64 (Ax.kind x),.bool (Ax.opn x),.int .i64 (Con.kind (Ax.left x)),str (Con.name (Ax.left x)),.int .i64 (Con.lo (Ax.left x)),.int .i64 (Con.hi (Ax.left x)),.slice (Con.ad (Ax.left x)) (List.length (Con.parts (Ax.left x))) (Con.cap (Ax.left x)),.int .i64 (Con.kind (Ax.right x)),str (Con.name (Ax.right x)),.int .i64 (Con.lo (Ax.right x)),.int .i64 (Con.hi (Ax.right x)),.slice (Con.ad (Ax.right x)) (List.length (Con.parts (Ax.right x))) (Con.cap (Ax.right x)),.slice (Ax.ad x) (List.length (Ax.roles x)) (Ax.cap x),str (Ax.role x),str (Ax.a x),str (Ax.b x)] 48 (0,0))::[]))) (fun y=>[Ax.memF x,Ax.memF w]) ?_ ?_
  ·cases r16
   ·replace hr16:=znb hr16
    refine Zz 3 ?_
    exact aC_ ⟨nn12,(dV_ hor12 hr16)⟩ zl zp zf
   replace hr16:=zeb hr16
   refine Zz 6 ?_
   refine i_ (cR_ (Ax.role x) (Ax.role w)) rfl f_ zt rfl fun _=>Zz 3 ?_
   exact aC_ ⟨(Lib.compareBytes (Ax.role x) (Ax.role w)),(dm_ hor12 hr16)⟩ zl zp zf
  rintro ⟨nn13,hnn13⟩
  dsimp only
  refine Zz 5 ?_
  refine s_ (V_ rfl rfl) rfl fun r17 hr17=>Zz 2 ?_
  refine bV_ (ι:={y:Int // y=orF (((((([(Lib.compareInt (Ax.wgt x) (Ax.wgt w))]++[(Lib.compareInt (Ax.kind x) (Ax.kind w))])++[(Con.cmp (Ax.left x) (Ax.left w))])++[(Con.cmp (Ax.right x) (Ax.right w))])++[dA_ (Ax.roles x) (Ax.roles w)])++[(Lib.compareBytes (Ax.role x) (Ax.role w))])++[(Lib.compareBytes (Ax.a x) (Ax.a w))])}) (fun y=>[(2,zp_ b1 0),(3,zp_ b2 0),(4,.int .i64 0),(6,.int .i64 (i:Int)),(5,.int .i64 y.1)]) (fun y=>((b2,.cells #[.int .i64 (Ax.kind w),.bool (Ax.opn w),.int .i64 (Con.kind (Ax.left w)),str (Con.name (Ax.left w)),.int .i64 (Con.lo (Ax.left w)),.int .i64 (Con.hi (Ax.left w)),.slice (Con.ad (Ax.left w)) (List.length (Con.parts (Ax.left w))) (Con.cap (Ax.left w)),.int .i64 (Con.kind (Ax.right w)),str (Con.name (Ax.right w)),.int .i64 (Con.lo (Ax.right w)),.int .i64 (Con.hi (Ax.right w)),.slice (Con.ad (Ax.right w)) (List.length (Con.parts (Ax.right w))) (Con.cap (Ax.right w)),.slice (Ax.ad w) (List.length (Ax.roles w)) (Ax.cap w),str (Ax.role w),str (Ax.a w),str (Ax.b w)] 48 (0,0))::((b1,.cells #[.int .i64 (Ax.kind x),.bool (Ax.opn x),.int .i64 (Con.kind (Ax.left x)),str (Con.name (Ax.left x)),.int .i64 (Con.lo (Ax.left x)),.int .i64 (Con.hi (Ax.left x)),.slice (Con.ad (Ax.left x)) (List.length (Con.parts (Ax.left x))) (Con.cap (Ax.left x)),.int .i64 (Con.kind (Ax.right x)),str (Con.name (Ax.right x)),.int .i64 (Con.lo (Ax.right x)),.int .i64 (Con.hi (Ax.right x)),.slice (Con.ad (Ax.right x)) (List.length (Con.parts (Ax.right x))) (Con.cap (Ax.right x)),.slice (Ax.ad x) (List.length (Ax.roles x)) (Ax.cap x),str (Ax.role x),str (Ax.a x),str (Ax.b x)] 48 (0,0))::[]))) (fun y=>[Ax.memF x,Ax.memF w]) ?_ ?_
  ·cases r17
   ·replace hr17:=znb hr17
    refine Zz 3 ?_
    exact aC_ ⟨nn13,(dV_ hnn13 hr17)⟩ zl zp zf
   replace hr17:=zeb hr17
   refine Zz 6 ?_
   refine i_ (cR_ (Ax.a x) (Ax.a w)) rfl f_ zt rfl fun _=>Zz 3 ?_
   exact aC_ ⟨(Lib.compareBytes (Ax.a x) (Ax.a w)),(dm_ hnn13 hr17)⟩ zl zp zf
  rintro ⟨nn14,hnn14⟩
  dsimp only
  refine Zz 5 ?_
  refine s_ (V_ rfl rfl) rfl fun r18 hr18=>Zz 2 ?_
  refine bV_ (ι:={y:Int // y=orF ((((((([(Lib.compareInt (Ax.wgt x) (Ax.wgt w))]++[(Lib.compareInt (Ax.kind x) (Ax.kind w))])++[(Con.cmp (Ax.left x) (Ax.left w))])++[(Con.cmp (Ax.right x) (Ax.right w))])++[dA_ (Ax.roles x) (Ax.roles w)])++[(Lib.compareBytes (Ax.role x) (Ax.role w))])++[(Lib.compareBytes (Ax.a x) (Ax.a w))])++[(Lib.compareBytes (Ax.b x) (Ax.b w))])}) (fun y=>[(2,zp_ b1 0),(3,zp_ b2 0),(4,.int .i64 0),(6,.int .i64 (i:Int)),(5,.int .i64 y.1)]) (fun y=>((b2,.cells #[.int .i64 (Ax.kind w),.bool (Ax.opn w),.int .i64 (Con.kind (Ax.left w)),str (Con.name (Ax.left w)),.int .i64 (Con.lo (Ax.left w)),.int .i64 (Con.hi (Ax.left w)),.slice (Con.ad (Ax.left w)) (List.length (Con.parts (Ax.left w))) (Con.cap (Ax.left w)),.int .i64 (Con.kind (Ax.right w)),str (Con.name (Ax.right w)),.int .i64 (Con.lo (Ax.right w)),.int .i64 (Con.hi (Ax.right w)),.slice (Con.ad (Ax.right w)) (List.length (Con.parts (Ax.right w))) (Con.cap (Ax.right w)),.slice (Ax.ad w) (List.length (Ax.roles w)) (Ax.cap w),str (Ax.role w),str (Ax.a w),str (Ax.b w)] 48 (0,0))::((b1,.cells #[.int .i64 (Ax.kind x),.bool (Ax.opn x),.int .i64 (Con.kind (Ax.left x)),str (Con.name (Ax.left x)),.int .i64 (Con.lo (Ax.left x)),.int .i64 (Con.hi (Ax.left x)),.slice (Con.ad (Ax.left x)) (List.length (Con.parts (Ax.left x))) (Con.cap (Ax.left x)),.int .i64 (Con.kind (Ax.right x)),str (Con.name (Ax.right x)),.int .i64 (Con.lo (Ax.right x)),.int .i64 (Con.hi (Ax.right x)),.slice (Con.ad (Ax.right x)) (List.length (Con.parts (Ax.right x))) (Con.cap (Ax.right x)),.slice (Ax.ad x) (List.length (Ax.roles x)) (Ax.cap x),str (Ax.role x),str (Ax.a x),str (Ax.b x)] 48 (0,0))::[]))) (fun y=>[Ax.memF x,Ax.memF w]) ?_ ?_
  ·cases r18
   ·replace hr18:=znb hr18
    refine Zz 3 ?_
    exact aC_ ⟨nn14,(dV_ hnn14 hr18)⟩ zl zp zf
   replace hr18:=zeb hr18
   refine Zz 6 ?_
   refine i_ (cR_ (Ax.b x) (Ax.b w)) rfl f_ zt rfl fun _=>Zz 3 ?_
   exact aC_ ⟨(Lib.compareBytes (Ax.b x) (Ax.b w)),(dm_ hnn14 hr18)⟩ zl zp zf
  rintro ⟨nn15,hnn15⟩
  dsimp only
  refine Zz 8 ?_
  exact G_ Tryz.results77 () (Y_ rfl (by rw[hnn15];exact rfl)) f_ zt
 obtain⟨hlx1,x1,hx1,hmx1⟩:=zge (show i<List.length (Ax.roles x) by omega)
 have hly1:i<List.length (Ax.roles w):=by omega
 obtain⟨y1,hy1⟩:∃ e0,(Ax.roles w)[i]? = some e0:=⟨_,List.getElem?_eq_getElem hly1⟩
 have hmy1:y1∈(Ax.roles w):=List.mem_of_getElem? hy1
 have hn0:n=0:=by assumption
 refine Zz 9 ?_
 refine U_ 2 [0,1,2,3,4,5,6,7,8,9] zk zs (Zz 3 ?_)
 refine y_ rfl (T_ D_ O_ rfl rfl (fun v _ h=>J_ (n:=1) av_ (by decide) (by exact h.1.2.2) hx1) (by omega) (by first|omega|(simp;done))) rfl ?_
 refine y_ rfl (bu_ (ad:=(Ax.ad x)) ap_ rfl (fun v _ h=>by exact h.1.2.2) (H_ av_ hx1 0 _ rfl)) rfl (Zz 3 ?_)
 refine y_ rfl (T_ D_ O_ rfl rfl (fun v _ h=>J_ (n:=1) av_ (by decide) (by exact h.2.1.2.2) hy1) (by omega) (by first|omega|(simp;done))) rfl ?_
 refine y_ rfl (bu_ (ad:=(Ax.ad w)) ap_ rfl (fun v _ h=>by exact h.2.1.2.2) (H_ av_ hy1 0 _ rfl)) rfl (aJ_ (u_ 10 rfl zk (i_ (cR_ x1 y1) rfl f_ zt rfl fun _=>Zz 3 ?_)))
 refine U_ 0 [11] zk zs (Zz 10 ?_)
 exact R_ ⟨(i+1,(Lib.compareBytes x1 y1)),fE_.step (by rw[hn0]at hlx;exact hlx) (by rw[lO_ hx1 hy1]) (fun _=>⟨by omega,by omega⟩)⟩ (by dsimp only;omega) zl zp zh
theorem pk_ (x y:Ax) (hok1:x.ok) (hok2:y.ok) (hz1l:x.left.sz≤1000) (hz1r:x.right.sz≤1000) (hz2l:y.left.sz≤1000) (hz2r:y.right.sz≤1000):Tri Tryz.prog 34 #[Ax.val x,Ax.val y] [] [Ax.memF x,Ax.memF y] (fun _:Unit=>.bool ((x.opn==y.opn)&&(Ax.cmp x y==0))) (fun _=>[]) (fun _=>[]):=by
 refine o_ Tryz.func34 rfl rfl Tryz.ntmps34 rfl fun v0=>?_
 refine Zz 2 ?_
 refine ah_ rfl rfl fun b1=>ah_ rfl rfl fun b2=>Zz 9 ?_
 refine s_ (ma_ Tryz.underlying4 rfl rfl) rfl fun r1 hr1=>Zz 1 ?_
 cases r1
 ·refine Zz 9 ?_
  exact G_ Tryz.results34 () (l_ rfl (by simp only[hr1,if_true,if_false,decide_true,decide_false,Bool.and_true,Bool.and_false,Bool.true_and,Bool.false_and,Bool.or_true,Bool.or_false,Bool.true_or,Bool.false_or,Bool.not_true,Bool.not_false,ne_eq,not_true_eq_false,not_false_eq_true,true_and,and_true,false_and,and_false,true_or,or_true,false_or,or_false,ite_true,ite_false,Bool.false_eq_true])) f_ zt
 refine Zz 5 ?_
 refine i_ (qy_ x y hok1 hok2 hz1l hz1r hz2l hz2r) rfl f_ zf rfl fun _=>ag_ rfl rfl (s_ (V_ rfl rfl) rfl fun r2 hr2=>Zz 5 ?_)
 exact G_ Tryz.results34 () (l_ rfl (by rw[← hr2];simp only[hr1,if_true,if_false,decide_true,decide_false,Bool.and_true,Bool.and_false,Bool.true_and,Bool.false_and,Bool.or_true,Bool.or_false,Bool.true_or,Bool.false_or,Bool.not_true,Bool.not_false,ne_eq,not_true_eq_false,not_false_eq_true,true_and,and_true,false_and,and_false,true_or,or_true,false_or,or_false,ite_true,ite_false,Bool.false_eq_true])) f_ zt
end Go.Proofs.YtamklbgaipakfaaGreatDoor
namespace Go.Sx
open Go
section
variable {P:Program} {N:Nf} {v0:Vw} {H0:Hp} {R:Exit→Act→World→Prop} {K:List Kt} {fr:Fr} {H:Hp} {Γ:List Fct}
variable {ty:TypeId}
theorem nm_ {s e:TypeId} {x:Operand} {f o:Nat} {cs:Array Value} {fs:Array Field} {fd:Field} {u:Value} (hu:∀ w,(underlying s).run P w=.ok (.struct fs) w) (hx:Fr.ev fr x=some (.agg cs)) (hf:fs[f]? = some fd) (ho:fd.offset=o)
    (ha:∀ w,(underlying fd.type).run P w=.ok (.slice e) w) (hc:lg cs.toList o=some u):Yld P N fr H Γ (.field s x f) ty u :=
  fun a v h1 h2 _ _ _ _=>by
    rw[lg_eq,Array.getElem?_toList]at hc
    simp[execOp,h1.ev hx,Instr.field,hu,hf,asAgg,part,isAgg,ha,ho,hc]
end
end Go.Sx
namespace Go.Proofs.YtamklbgaipakfaaGreatDoor
open Go Go.Sx Go.Proofs
attribute [local irreducible] Code.wp wpList wpAnyH
open Go.Vs
theorem pL_ {l:List Ax} {i:Nat} {x:Ax} (h:l[i]? = some x):fs_ 0 (List.take (i+1) l)=fs_ 0 (List.take i l)++x.pieces (i:Int):=by
  have hi:=(List.getElem?_eq_some_iff.1 h).1
  rw[List.take_add_one,h,Option.toList_some,iL_,List.length_take,Nat.min_eq_left (by omega),Nat.zero_add]
  simp[fs_]
theorem kC_ (l:List Ax) (ad:Option Addr) (cap:Nat) (hcap:l.length≤cap∧cap≤2199023255488) (hok:∀ x∈l,x.ok) (h12:l.length≤12) (hfw:∀ x∈l,Ax.Few x) {p:List Pc} {er:Int} (hP:aD_ l=(p,er)):Tri Tryz.prog 39 #[.slice ad (List.length l) cap] [] [cH_ ad l] (fun y:{y:Option Addr×Nat // p.length≤y.2∧y.2≤maxLen}=>.tuple #[.slice y.1.1 p.length y.1.2,.int .i64 er]) (fun _=>[]) (fun y=>[aw_ y.1.1 (p.flatMap Pc.cells)]):=by
 refine o_ Tryz.func39 rfl rfl Tryz.ntmps39 rfl fun v0=>?_
 refine Zi 11 (fun hr1=>?_) fun hr1=>?_
 ·refine Zz 12 ?_
  refine aN_ [(0,.slice ad (List.length l) cap),(4,.int .i64 ((0:Nat):Int))] zl ?_
  refine aT_ (ι:={q:Nat // q≤l.length∧∀ y∈l.take q,y.check=0}) (fun zz=>[(0,.slice ad (List.length l) cap),(4,.int .i64 (zz.1:Int))]) (fun _=>_) (fun _=>_) (fun zz=>l.length - zz.1) ⟨0,by simp⟩ ?_
  rintro ⟨i,hk⟩
  refine aN_ [(0,.slice ad (List.length l) cap),(4,.int .i64 (i:Int))] zl ?_
  refine Zi 6 (fun hr2=>?_) fun hr2=>?_
  ·refine Zz 17 ?_
   have hall:∀ y∈l,y.check=0:=fun y hy=>hk.2 y (by rw[List.take_of_length_le (by omega)];exact hy)
   have hfl:=gR_ 0 l hall
   rw[hz_ (by omega) hall]at hP
   obtain⟨rfl,rfl⟩:=Prod.mk.inj hP
   refine aN_ [(0,.slice ad (List.length l) cap),(6,.slice none 0 0),(7,.int .i64 ((0:Nat):Int))] zl ?_
   refine aT_ (ι:={y:Nat×Value×Hp // y.1≤l.length∧aG_ 58 10 y.2.1 (fs_ 0 (List.take y.1 l)).length ((fs_ 0 (List.take y.1 l)).flatMap Pc.cells) y.2.2}) (fun y=>[(0,.slice ad (List.length l) cap),(6,y.1.2.1),(7,.int .i64 (y.1.1:Int))]) (fun y=>y.1.2.2) (fun _=>_) (fun y=>l.length - y.1.1) ⟨(0,.slice none 0 0,[]),by simp,aG_.nil _ _⟩ ?_
   rintro ⟨⟨j,sv,Hr⟩,hj,hrow⟩
   dsimp only at hj hrow
   dsimp only
   have hfj:=gR_ 0 (l.take j) (fun y hy=>hall y (List.mem_of_mem_take hy))
   rw[List.length_take]at hfj
   refine aN_ [(0,.slice ad (List.length l) cap),(6,sv),(7,.int .i64 (j:Int))] zl ?_
   refine Zi 6 (fun hr3=>?_) fun hr3=>?_
   ·refine Zz 9 ?_
    refine c_ (eC_ hrow x_ rfl) rfl ?_
    refine Zi 0 (fun hr4=>?_) fun hr4=>?_
    ·refine Zz 13 ?_
     rw[List.take_of_length_le (show l.length≤j by omega)]at hrow
     refine aQ_ hrow bh_ fun ad2 cp2 hsv hc1 hc2 hc3=>?_
     subst hsv
     exact fv_ Tryz.results39 ⟨(ad2,cp2),hc1,hc2⟩ rfl rfl rfl f_ zf
    exfalso;omega
   obtain⟨hlx2,x2,hx2,hmx2⟩:=zge (show j<List.length l by omega)
   have hpl:=gj_ (j:Int) (Ax.good_of (hall x2 hmx2))
   refine Zz 11 ?_
   refine c_ (T_ ae_ ad_ rfl rfl (fun v _ h=>J_ (n:=16) Ax.cells_len (by decide) (by exact h.1.1) hx2) (by omega) (by first|omega|(simp;done))) rfl ?_
   refine c_ (al_ (ad:=ad) (us:=Ax.cells x2) bB_ ad_ rfl (fun v _ h=>by exact h.1.1) (Ax.cells_len _) (H_ Ax.cells_len hx2)) rfl (Zz 1 ?_)
   refine i_ (rOf1_c x2 (hok x2 hmx2) (hall x2 hmx2) (j:Int)) rfl f_ (fun v _ h=>by exact⟨(h.1.2 x2 hmx2),trivial⟩) rfl fun⟨⟨al1,cl1⟩,hca1,hcb1,hcc1⟩=>?_
   dsimp only
   refine W_ qE_ (dh_ (news:=List.flatMap Pc.cells (Ax.pieces (j:Int) x2)) fW_ hrow rfl rfl hcc1 hca1 bh_ (by rw[dR_ Pc.cells 10 Pc.cells_len]) zf (fun u hu=>iX_ hu) (by simp only[maxLen];omega) (by omega) rfl fun sv1 Hr1 hr1=>?_)
   refine W_ (@List.perm_append_comm _ _ []) ?_
   have hq1:aG_ 58 10 sv1 ((fs_ 0 (List.take j l))++(Ax.pieces (j:Int) x2)).length (((fs_ 0 (List.take j l))++(Ax.pieces (j:Int) x2)).flatMap Pc.cells) Hr1:=by rw[List.length_append,List.flatMap_append];simpa using hr1
   refine Zz 9 ?_
   exact R_ ⟨(j+1,sv1,Hr1),hlx2,by dsimp only;rw[pL_ hx2];exact hq1⟩ (by dsimp only;omega) zl bh_ (fun _ _ h=>h.2)
  obtain⟨hlx1,x1,hx1,hmx1⟩:=zge (show i<List.length l by omega)
  refine Zz 11 ?_
  refine c_ (T_ ae_ ad_ rfl rfl (fun v _ h=>J_ (n:=16) Ax.cells_len (by decide) (by exact h.1.1) hx1) (by omega) (by first|omega|(simp;done))) rfl ?_
  refine c_ (al_ (ad:=ad) (us:=Ax.cells x1) bB_ ad_ rfl (fun v _ h=>by exact h.1.1) (Ax.cells_len _) (H_ Ax.cells_len hx1)) rfl (i_ (kd_ x1 (hok x1 hmx1) (by have:=(hfw x1 hmx1).left;omega) (by have:=(hfw x1 hmx1).right;omega)) rfl f_ (fun v _ h=>by exact⟨(h.1.2 x1 hmx1),trivial⟩) rfl fun _=>?_)
  refine Zi 6 (fun hr5=>?_) fun hr5=>?_
  ·refine Zz 11 ?_
   exact R_ ⟨i+1,hlx1,fun y hy=>by rw[List.take_add_one,hx1]at hy;simp only[Option.toList_some,List.mem_append,List.mem_singleton]at hy;rcases hy with hy|rfl;exact hk.2 y hy;assumption⟩ (by dsimp only;omega) zl (.refl _) zh
  refine Zz 11 ?_
  rw[gL_ (by omega) (by rw[gT_ hx1 hk.2 (by assumption)];assumption),gT_ hx1 hk.2 (by assumption)]at hP
  obtain⟨rfl,rfl⟩:=Prod.mk.inj hP
  exact fv_ Tryz.results39 ⟨(none,0),by simp,by decide⟩ rfl rfl rfl f_ (fun _ _ _=>⟨.inl rfl,trivial⟩)
 exfalso;omega
theorem eM_ {s:Str} {q:Str→Bool} (h:gQ_ true s q=true) (hq:q []=false):s≠[]:=by
  intro e
  subst e
  simp[gQ_,hq]at h
theorem pcN_of {x:Pc} (h:x.valid=true):PcN x:=by
 unfold Pc.valid at h
 by_cases h1:x.kind<1∨9<x.kind∨x.frm < -1∨1024≤x.frm
 ·rw[if_pos h1]at h;cases h
 rw[if_neg h1]at h
 by_cases h2:(nus x.kind).numbers=true∧(x.lo < -1099511627776∨x.hi<x.lo∨1099511627776<x.hi)
 ·rw[if_pos h2]at h;cases h
 rw[if_neg h2]at h
 by_cases h3:(nus x.kind).numbers=false∧(x.lo≠0∨x.hi≠0)
 ·rw[if_pos h3]at h;cases h
 rw[if_neg h3]at h
 simp only[Bool.and_eq_true]at h
 obtain⟨⟨⟨⟨⟨ha,hb⟩,hc⟩,hr⟩,hs⟩,ht⟩:=h
 have hk:1≤x.kind∧x.kind≤9:=by omega
 have a0:cd_ []=false:=by decide
 have r0:eb_ []=false:=by decide
 have p0:aK_ []=false:=by decide
 refine⟨hk,fun t ht2=>?_⟩
 have hr0:(if (nus x.kind).numbers then aK_ else eb_) []=false:=by split<;>assumption
 rcases lw_ hk with k|k|k|k|k|k|k|k|k<;>rw[k]at hc hr ht hr0<;>simp[an_,k]at ht2
 ·subst ht2;exact eM_ hc a0
 ·subst ht2;exact eM_ hc a0
 ·rcases ht2 with rfl|rfl
  ·exact eM_ hr hr0
  exact eM_ hc a0
 ·subst ht2;exact eM_ hc a0
 ·subst ht2;exact eM_ ht r0
 ·subst ht2;exact eM_ ht r0
 ·subst ht2;exact eM_ hr hr0
 ·subst ht2;exact eM_ hr hr0
 subst ht2;exact eM_ hc a0
theorem kF_ {l:List Ax} {p:List Pc} (h12:l.length≤12) (hok:∀ x∈l,x.ok) (h:aD_ l=(p,0)):(∀ x∈p,PcN x)∧p.length≤16384:=by
 by_cases hb:cD_ l=0
 ·have hc:=gS_ hb
  rw[hz_ (by omega) hc]at h
  obtain⟨rfl,_⟩:=Prod.mk.inj h
  exact⟨fun x hx=>pcN_of (mZ_ l 0 (by omega) hok hc x hx).2.2.2,by have:=gR_ 0 l hc;omega⟩
 rw[gL_ (by omega) hb]at h
 exact absurd (Prod.mk.inj h).2 hb
end Go.Proofs.YtamklbgaipakfaaGreatDoor
namespace Go.Vs
open Go Go.Sx Go.Proofs.YtamklbgaipakfaaGreatDoor
structure Rcd.ok (x:Rcd):Prop where
  a:x.a.length≤x.acap∧x.acap≤maxLen∧(x.aad=none→x.acap=0)
  r:x.r.length≤x.rcap∧x.rcap≤maxLen∧(x.rad=none→x.rcap=0)
  f:x.f.length≤x.fcap∧x.fcap≤maxLen∧(x.fad=none→x.fcap=0)
structure Rcd.sm (x:Rcd):Prop where
  a:x.a.length≤10000000000
  r:x.r.length≤10000000000
  f:x.f.length≤10000000000
def Rcd.row (x:Rcd):List Fct:=[aw_ x.aad (x.a.flatMap aH_),aw_ x.rad (x.r.flatMap aH_),aw_ x.fad (x.f.flatMap aH_)]
structure Rcd.srt (x:Rcd):Prop where
  a:SrS x.a
  r:SrS x.r
  f:SrS x.f
theorem qi_ {a r f:List Str} {q:Pc} (h:q.kind=1∨q.kind=3∨q.kind=8):dH_ a r f q=decide (q.a∈a):=by unfold dH_;rw[show aq_ q=[⟨1,q.a⟩] from if_pos h];simp[fD_]
theorem sJ_ {a r f:List Str} {q:Pc} (h:q.kind=2):dH_ a r f q=(decide (q.a∈a)&&decide (q.b∈a)):=by unfold dH_;rw[show aq_ q=[⟨1,q.a⟩,⟨1,q.b⟩] by simp[aq_,h]];simp[fD_]
theorem sI_ {a r f:List Str} {q:Pc} (h:q.kind=4):dH_ a r f q=(decide (q.r∈r)&&decide (q.a∈a)):=by unfold dH_;rw[show aq_ q=[⟨2,q.r⟩,⟨1,q.a⟩] by simp[aq_,h]];simp[fD_]
theorem usb_5 {a r f:List Str} {q:Pc} (h:q.kind=5):dH_ a r f q=decide (q.r∈r):=by unfold dH_;rw[show aq_ q=[⟨2,q.r⟩] by simp[aq_,h]];simp[fD_]
theorem sH_ {a r f:List Str} {q:Pc} (h:q.kind=6):dH_ a r f q=(decide (q.r∈r)&&decide (q.s∈r)):=by unfold dH_;rw[show aq_ q=[⟨2,q.r⟩,⟨2,q.s⟩] by simp[aq_,h]];simp[fD_]
theorem usb_9 {a r f:List Str} {q:Pc} (h:q.kind=9):dH_ a r f q=decide (q.r∈f):=by unfold dH_;rw[show aq_ q=[⟨3,q.r⟩] by simp[aq_,h]];simp[fD_]
theorem usb_7 {a r f:List Str} {q:Pc} (hk:1≤q.kind∧q.kind≤9) (h1:¬ q.kind=1) (h3:¬ q.kind=3) (h8:¬ q.kind=8) (h2:¬ q.kind=2) (h4:¬ q.kind=4) (h5:¬ q.kind=5) (h6:¬ q.kind=6) (h9:¬ q.kind=9):dH_ a r f q=decide (q.kind=7):=by
  have:q.kind=7:=by omega
  unfold dH_;simp[aq_,this]
structure RcA (S X:List Str):Prop where
  s:SrS X
  l:X.length≤S.length+2
  m:∀ n,n∈X↔n=[33]∨n=[42]∨n∈S
theorem RcA.nil:RcA [] [[33],[42]]:=⟨by decide,by decide,fun n=>by simp⟩
theorem RcA.step {S X:List Str} {s:Str} (h:RcA S X) (hs:s≠[]):RcA (S++[s]) (bf_ X s):=by
 obtain⟨h1,_,_,h4⟩:=fk_ h.s hs
 refine⟨h1,?_,fun n=>?_⟩
 ·have:=h.l
  by_cases q:s∈X
  ·rw[hL_ h.s q,List.length_append];omega
  rw[ht_ hs q,List.length_append,List.length_singleton];omega
 rw[h4,h.m,List.mem_append,List.mem_singleton]
 constructor
 ·rintro ((q|q|q)|q)
  ·exact .inl q
  ·exact .inr (.inl q)
  ·exact .inr (.inr (.inl q))
  exact .inr (.inr (.inr q))
 rintro (q|q|q|q)
 ·exact .inl (.inl q)
 ·exact .inl (.inr (.inl q))
 ·exact .inl (.inr (.inr q))
 exact .inr q
theorem RcA.inv {p:List Pc} {S X:List Str} (h:RcA S X):RdI p S X [] []:=by
 refine⟨h.s,.nil,.nil,fun t ht=>?_,fun t ht=>?_⟩
 ·obtain⟨k,n⟩:=t
  rcases ht with⟨hk,hn⟩|⟨_,hn⟩|⟨_,hn⟩
  ·dsimp only at hk hn
   subst hk
   refine .base ?_
   unfold dr_
   rcases (h.m n).1 hn with rfl|rfl|q
   ·simp
   ·simp
   exact List.mem_append_right _ (List.mem_map.2 ⟨n,q,rfl⟩)
  ·cases hn
  cases hn
 unfold dr_ at ht
 rcases List.mem_append.1 ht with q|q
 ·rcases List.mem_cons.1 q with rfl|q
  ·exact .inl ⟨rfl,(h.m _).2 (.inr (.inl rfl))⟩
  rw[List.mem_singleton]at q
  subst q
  exact .inl ⟨rfl,(h.m _).2 (.inl rfl)⟩
 obtain⟨n,hn,rfl⟩:=List.mem_map.1 q
 exact .inl ⟨rfl,(h.m _).2 (.inr (.inr hn))⟩
structure Rc1 (p:List Pc) (S:List Str) (x:Rcd):Prop where
  m:∀ t,fD_ x.a x.r x.f t↔Rch p S t
  s:x.srt
  ok:x.ok
  sm:x.sm
theorem RdR.fin {p:List Pc} {S a r f:List Str} {n:Int} (h:RdR p S n p.length a r f) (h0:¬ n<((a.length+r.length+f.length:Nat):Int)):∀ t,fD_ a r f t↔Rch p S t:=by
  have:=h.le
  have e:n=((a.length+r.length+f.length:Nat):Int):=by omega
  subst e
  exact h.done
theorem RdI.sm {p:List Pc} {S:List Str} {x:Rcd} (h:RdI p S x.a x.r x.f) (hp:p.length≤100000000) (hS:S.length≤100000000):x.sm∧x.a.length+x.r.length+x.f.length≤300000002:=by
  have h1:=h.len
  have h2:=eE_ p S
  exact⟨⟨by omega,by omega,by omega⟩,by omega⟩
def MtI (a:Ax) (x:Rcd) (p:List Pc) (i:Nat) (k:Nat) (b:Bool):Prop:=b=true↔eR_ a∨∃ (j:Nat) (q:Pc),j<k∧p[j]? = some q∧q.frm=(i:Int)∧dH_ x.a x.r x.f q=true
theorem MtI.zero {a:Ax} {x:Rcd} {p:List Pc} {i:Nat} {b:Bool} (h:b=true↔eR_ a):MtI a x p i 0 b:=by
  unfold MtI
  rw[h]
  exact⟨.inl,fun q=>q.elim id fun⟨_,_,q,_⟩=>absurd q (Nat.not_lt_zero _)⟩
theorem MtI.step {a:Ax} {x:Rcd} {p:List Pc} {i k:Nat} {q:Pc} {c:Bool} (h:MtI a x p i k false) (hq:p[k]? = some q) (hc:c=true↔q.frm=(i:Int)∧dH_ x.a x.r x.f q=true):MtI a x p i (k+1) c:=by
 have h0:¬ (eR_ a∨∃ (j:Nat) (q:Pc),j<k∧p[j]? = some q∧q.frm=(i:Int)∧dH_ x.a x.r x.f q=true):=fun z=>by have:=h.2 z;cases this
 unfold MtI
 rw[hc]
 constructor
 ·exact fun z=>.inr ⟨k,q,by omega,hq,z⟩
 rintro (z|⟨j,y,hj,hy,z⟩)
 ·exact absurd (.inl z) h0
 rcases Nat.lt_or_ge j k with g|g
 ·exact absurd (.inr ⟨j,y,g,hy,z⟩) h0
 obtain rfl:j=k:=by omega
 rw[hq,Option.some.injEq]at hy
 subst hy
 exact z
theorem Rc1.usb {p:List Pc} {S:List Str} {x:Rcd} (h:Rc1 p S x) (q:Pc):dH_ x.a x.r x.f q=true↔Usb p S q:=by
  unfold dH_ Usb
  rw[decide_eq_true_iff]
  exact⟨fun z u hu=>(h.m u).1 (z u hu),fun z u hu=>(h.m u).2 (z u hu)⟩
theorem MtI.yes {l:List Ax} {a:Ax} {x:Rcd} {p:List Pc} {S:List Str} {i k:Nat} (h:MtI a x p i k true) (hx:Rc1 p S x) (ha:l[i]? = some a):Mat l p S i:=by
 rcases h.1 rfl with z|⟨j,q,_,hq,hf,hu⟩
 ·exact ib_ ha z
 exact .inr ⟨q,List.mem_of_getElem? hq,hf,(hx.usb q).1 hu⟩
theorem MtI.no {l:List Ax} {a:Ax} {x:Rcd} {p:List Pc} {S:List Str} {i k:Nat} (h:MtI a x p i k false) (hx:Rc1 p S x) (ha:l[i]? = some a) (hk:p.length≤k):¬ Mat l p S i:=by
 have h0:¬ (eR_ a∨∃ (j:Nat) (q:Pc),j<k∧p[j]? = some q∧q.frm=(i:Int)∧dH_ x.a x.r x.f q=true):=fun z=>by have:=h.2 z;cases this
 rintro (⟨b,hb,hkb⟩|⟨q,hq,hf,hu⟩)
 ·have:l[i]? = some b:=by simpa using hb
  rw[ha,Option.some.injEq]at this
  subst this
  exact h0 (.inl hkb)
 obtain⟨j,hj⟩:=List.getElem?_of_mem hq
 have:=(List.getElem?_eq_some_iff.1 hj).1
 exact h0 (.inr ⟨j,q,by omega,hj,hf,(hx.usb q).2 hu⟩)
end Go.Vs
namespace Go.Proofs.YtamklbgaipakfaaGreatDoor
open Go Go.Sx Go.Proofs
attribute [local irreducible] Code.wp wpList wpAnyH
open Go.Vs
theorem so_ {l:List Str} {s:Str} {k:Nat} (h1:k≤l.length) (h2:∀ x∈l.take k,x≠s) (h3:¬ (k:Int)<(l.length:Int)):decide (s∈l)=false:=by
  have e:l.take k=l:=List.take_of_length_le (by omega)
  rw[e]at h2
  exact decide_eq_false fun q=>h2 s q rfl
theorem sn_ {l:List Str} {s x:Str} {k:Nat} (h:l[k]? = some x) (e:x=s):decide (s∈l)=true:=decide_eq_true (e▸List.mem_of_getElem? h)
theorem fc_ (l:List Str) (ad:Option Addr) (cap:Nat) (s:Str) (hl:l.length≤100000000000):Tri Tryz.prog 166 #[.slice ad (List.length l) cap,str s] [] [aw_ ad (List.flatMap aH_ l)] (fun _:Unit=>.bool (decide (s∈l))) (fun _=>[]) (fun _=>[]):=by
 refine o_ Tryz.func166 rfl rfl Tryz.ntmps166 rfl fun v0=>?_
 refine Zz 12 ?_
 refine aN_ [(0,.slice ad (List.length l) cap),(1,str s),(5,.int .i64 ((0:Nat):Int))] zl ?_
 refine aT_ (ι:={z:Nat // z≤l.length∧∀ x∈l.take z,x≠s}) (fun zz=>[(0,.slice ad (List.length l) cap),(1,str s),(5,.int .i64 (zz.1:Int))]) (fun _=>_) (fun _=>_) (fun zz=>l.length - zz.1) ⟨0,by simp⟩ ?_
 rintro ⟨k,hk⟩
 refine aN_ [(0,.slice ad (List.length l) cap),(1,str s),(5,.int .i64 (k:Int))] zl ?_
 refine Zi 6 (fun hr1=>?_) fun hr1=>?_
 ·refine Zz 11 ?_
  exact G_ Tryz.results166 () (l_ rfl (by exact (so_ hk.1 hk.2 (by assumption)).symm)) (.refl _) zt
 obtain⟨hlx1,x1,hx1,hmx1⟩:=zge (show k<List.length l by omega)
 refine Zi 14 (fun hr2=>?_) fun hr2=>?_
 ·refine Zz 11 ?_
  exact R_ ⟨k+1,hlx1,fun x hx=>by rw[List.take_add_one,hx1]at hx;simp only[Option.toList_some,List.mem_append,List.mem_singleton]at hx;rcases hx with hx|rfl;exact hk.2 x hx;simp_all⟩ (by dsimp only;omega) zl (.refl _) zh
 refine Zz 9 ?_
 exact G_ Tryz.results166 () (l_ rfl (by exact (sn_ hx1 (by simp_all)).symm)) (.refl _) zt
theorem eo_ (l:List Str) (ad:Option Addr) (cap:Nat) (s:Str) (hl:l.length≤100000000000) (hc:l.length≤cap∧cap≤maxLen∧(ad=none→cap=0)) (hsl:SrS l) (hs:s≠[]):Tri Tryz.prog 91 #[.slice ad (List.length l) cap,str s] [] [aw_ ad (List.flatMap aH_ l)] (fun y:{y:Option Addr×Nat // (bf_ l s).length≤y.2∧y.2≤maxLen∧(y.1=none→y.2=0)}=>.slice y.1.1 (bf_ l s).length y.1.2) (fun _=>[]) (fun y=>[aw_ y.1.1 ((bf_ l s).flatMap aH_)]):=by
 refine o_ Tryz.func91 rfl rfl Tryz.ntmps91 rfl fun v0=>?_
 refine Zz 10 ?_
 refine N_ (fc_ l ad cap s hl) rfl f_ zf rfl fun r1 hr1=>Zz 2 ?_
 cases r1
 ·replace hr1:=zdf hr1
  refine Zz 10 ?_
  refine aN_ [(0,.slice ad (List.length l) cap),(1,str s),(5,.int .i64 ((0:Nat):Int))] zl ?_
  refine aT_ (ι:={z:Nat // z≤l.length∧∀ x∈l.take z,x<s}) (fun zz=>[(0,.slice ad (List.length l) cap),(1,str s),(5,.int .i64 (zz.1:Int))]) (fun _=>_) (fun _=>_) (fun zz=>l.length - zz.1) ⟨0,by simp⟩ ?_
  rintro ⟨k,hk⟩
  refine aN_ [(0,.slice ad (List.length l) cap),(1,str s),(5,.int .i64 (k:Int))] zl ?_
  refine Zi 6 (fun hr2=>?_) fun hr2=>?_
  ·refine Zz 14 ?_
   have hks:kS l s=k:=qV_ hk.1 hk.2 (fun x hx=>by have:=(List.getElem?_eq_some_iff.1 hx).1;omega)
   refine d_ (kH_ D_ O_ rfl fun b1=>Zz 2 ?_)
   refine c_ (br_ (cM_ (i:=0) (j:=k) (kl:=.i64) (kh:=.i64) D_ O_ rfl rfl rfl (by omega) (by omega)) (show _=Value.slice (sad ad cap 0 1) (List.length (List.take k l)) (cap - 0) by rw[List.length_take,Nat.min_eq_left (by omega)];rfl)) rfl ?_
   have hr0:aG_ 9 1 (.slice (some ⟨b1,0,none⟩) 0 0) 0 [] [(b1,.cells #[] 9 (0,0))]:=⟨rfl,.inr ⟨b1,0,#[],rfl,rfl,Nat.le_refl _,Nat.zero_le _,rfl,rfl⟩⟩
   refine dh_ (news:=(List.take k l).flatMap aH_) nY_ hr0 rfl rfl (fun q=>by have:=hc.2.2 (hP_ q);omega) (by rw[List.length_take];omega) (.refl _) (by rw[dR_ aH_ 1 av_]) (fun v _ h=>by exact (bN_.slice av_ h.1 hc.1 0 k)) (fun u hu=>hX_ hu) (by rw[List.length_take];simp only[maxLen];omega) (by rw[List.length_take];omega) rfl fun sv1 Hr1 hr1=>?_
   refine W_ (@List.perm_append_comm _ _ []) (Zz 7 ?_)
   refine I_ D_ O_ aR_ rfl rfl rfl rfl rfl rfl fun b2=>?_
   refine aW_ (news:=[str s]) nY_ hr1 rfl rfl zp rfl (bv_ 0 rfl) (cY_ rfl) (by rw[List.length_take];simp only[maxLen];omega) (by rw[List.length_take];omega) rfl fun sv2 Hr2 hr2=>?_
   refine W_ (@List.perm_append_comm _ _ [_]) (Zz 8 ?_)
   refine c_ (br_ (cM_ (i:=k) (j:=l.length) (kl:=.i64) (kh:=.i64) D_ O_ rfl rfl rfl (by omega) (by omega)) (show _=Value.slice (sad ad cap k 1) (List.length (List.drop k l)) (cap - k) by rw[List.length_drop])) rfl (dh_ (news:=(List.drop k l).flatMap aH_) nY_ hr2 rfl rfl (fun q=>by have:=hc.2.2 (hP_ q);omega) (by rw[List.length_drop];omega) (C_ bh_) (by rw[dR_ aH_ 1 av_]) (fun v _ h=>by exact (bN_.rest av_ h.1 hc.1 k)) (fun u hu=>hX_ hu) (by rw[List.length_drop,List.length_take];simp only[maxLen];omega) (by rw[List.length_drop,List.length_take];omega) rfl fun sv3 Hr3 hr3=>?_)
   refine W_ (@List.perm_append_comm _ _ [_]) (Zz 4 ?_)
   have ew:bf_ l s=l.take k++[s]++l.drop k:=by rw[io_ hs (by assumption),hks]
   have hr4:aG_ 9 1 sv3 (bf_ l s).length ((bf_ l s).flatMap aH_) Hr3:=by rw[ew,List.flatMap_append,List.flatMap_append,List.length_append,List.length_append];simpa [aH_] using hr3
   refine aQ_ hr4 (C_ bh_) fun ad2 cp2 hsv hc1 hc2 hc3=>?_
   exact G_ Tryz.results91 ⟨(ad2,cp2),hc1,hc2,hc3⟩ (bO_ rfl hsv) f_ zf
  obtain⟨hlx1,x1,hx1,hmx1⟩:=zge (show k<List.length l by omega)
  refine Zi 12 (fun hr3=>?_) fun hr3=>?_
  ·refine Zz 7 ?_
   have hks:kS l s=k:=qV_ hk.1 hk.2 (fun x hx=>by rw[hx1]at hx;cases hx;assumption)
   refine d_ (kH_ D_ O_ rfl fun b3=>Zz 2 ?_)
   refine c_ (br_ (cM_ (i:=0) (j:=k) (kl:=.i64) (kh:=.i64) D_ O_ rfl rfl rfl (by omega) (by omega)) (show _=Value.slice (sad ad cap 0 1) (List.length (List.take k l)) (cap - 0) by rw[List.length_take,Nat.min_eq_left (by omega)];rfl)) rfl ?_
   have hr0:aG_ 9 1 (.slice (some ⟨b3,0,none⟩) 0 0) 0 [] [(b3,.cells #[] 9 (0,0))]:=⟨rfl,.inr ⟨b3,0,#[],rfl,rfl,Nat.le_refl _,Nat.zero_le _,rfl,rfl⟩⟩
   refine dh_ (news:=(List.take k l).flatMap aH_) nY_ hr0 rfl rfl (fun q=>by have:=hc.2.2 (hP_ q);omega) (by rw[List.length_take];omega) (.refl _) (by rw[dR_ aH_ 1 av_]) (fun v _ h=>by exact (bN_.slice av_ h.1 hc.1 0 k)) (fun u hu=>hX_ hu) (by rw[List.length_take];simp only[maxLen];omega) (by rw[List.length_take];omega) rfl fun sv1 Hr1 hr1=>?_
   refine W_ (@List.perm_append_comm _ _ []) (Zz 7 ?_)
   refine I_ D_ O_ aR_ rfl rfl rfl rfl rfl rfl fun b4=>?_
   refine aW_ (news:=[str s]) nY_ hr1 rfl rfl zp rfl (bv_ 0 rfl) (cY_ rfl) (by rw[List.length_take];simp only[maxLen];omega) (by rw[List.length_take];omega) rfl fun sv2 Hr2 hr2=>?_
   refine W_ (@List.perm_append_comm _ _ [_]) (Zz 8 ?_)
   refine c_ (br_ (cM_ (i:=k) (j:=l.length) (kl:=.i64) (kh:=.i64) D_ O_ rfl rfl rfl (by omega) (by omega)) (show _=Value.slice (sad ad cap k 1) (List.length (List.drop k l)) (cap - k) by rw[List.length_drop])) rfl (dh_ (news:=(List.drop k l).flatMap aH_) nY_ hr2 rfl rfl (fun q=>by have:=hc.2.2 (hP_ q);omega) (by rw[List.length_drop];omega) (C_ bh_) (by rw[dR_ aH_ 1 av_]) (fun v _ h=>by exact (bN_.rest av_ h.1 hc.1 k)) (fun u hu=>hX_ hu) (by rw[List.length_drop,List.length_take];simp only[maxLen];omega) (by rw[List.length_drop,List.length_take];omega) rfl fun sv3 Hr3 hr3=>?_)
   refine W_ (@List.perm_append_comm _ _ [_]) (Zz 4 ?_)
   have ew:bf_ l s=l.take k++[s]++l.drop k:=by rw[io_ hs (by assumption),hks]
   have hr4:aG_ 9 1 sv3 (bf_ l s).length ((bf_ l s).flatMap aH_) Hr3:=by rw[ew,List.flatMap_append,List.flatMap_append,List.length_append,List.length_append];simpa [aH_] using hr3
   refine aQ_ hr4 (C_ bh_) fun ad2 cp2 hsv hc1 hc2 hc3=>?_
   exact G_ Tryz.results91 ⟨(ad2,cp2),hc1,hc2,hc3⟩ (bO_ rfl hsv) f_ zf
  refine Zz 13 ?_
  exact R_ ⟨k+1,hlx1,fun x hx=>by rw[List.take_add_one,hx1]at hx;simp only[Option.toList_some,List.mem_append,List.mem_singleton]at hx;rcases hx with hx|rfl;exact hk.2 x hx;assumption⟩ (by dsimp only;omega) zl (.refl _) zh
 replace hr1:=zdt hr1
 refine Zz 8 ?_
 have ew:bf_ l s=l:=hL_ hsl (by assumption)
 exact G_ Tryz.results91 ⟨(ad,cap),by rw[ew];exact hc⟩ (bO_ rfl (by dsimp only;rw[ew])) f_ (fun v _ h=>⟨by show bN_ v ad ((bf_ l s).flatMap aH_);rw[ew];exact h.1,trivial⟩)
end Go.Proofs.YtamklbgaipakfaaGreatDoor
namespace Go.Proofs.YtamklbgaipakfaaGreatDoor
open Go Go.Sx Go.Proofs
attribute [local irreducible] Code.wp wpList wpAnyH
open Go.Vs
theorem strt86:iU_ Tryz.prog 86 [(0,1),(1,1),(2,1)] [.slice none 0 0,.slice none 0 0,.slice none 0 0]:=⟨_,lX_,cl_,fun w=>by simp[bw_]⟩
theorem hM_ (x:Rcd) (q:Pc) (hx:x.sm) (hq:1≤q.kind∧q.kind≤9):Tri Tryz.prog 84 #[Rcd.val x,Pc.val q] [] [aw_ (Rcd.aad x) (List.flatMap aH_ (Rcd.a x)),aw_ (Rcd.rad x) (List.flatMap aH_ (Rcd.r x)),aw_ (Rcd.fad x) (List.flatMap aH_ (Rcd.f x))] (fun _:Unit=>.bool (dH_ x.a x.r x.f q)) (fun _=>[]) (fun _=>[]):=by
 refine o_ Tryz.func84 rfl rfl Tryz.ntmps84 rfl fun v0=>?_
 refine Zz 2 ?_
 refine ah_ rfl rfl fun b1=>ah_ rfl rfl fun b2=>Zi 14 (fun hr1=>?_) fun hr1=>?_
 ·refine Zi 6 (fun hr2=>?_) fun hr2=>?_
  ·refine Zi 5 (fun hr3=>?_) fun hr3=>?_
   ·refine Zi 6 (fun hr4=>?_) fun hr4=>?_
    ·refine Zi 6 (fun hr5=>?_) fun hr5=>?_
     ·refine Zi 6 (fun hr6=>?_) fun hr6=>?_
      ·refine Zi 6 (fun hr7=>?_) fun hr7=>?_
       ·refine Zi 6 (fun hr8=>?_) fun hr8=>?_
        ·refine Zz 10 ?_
         refine s_ (V_ rfl rfl) rfl fun r9 hr9=>Zz 4 ?_
         have hu:dH_ (Rcd.a x) (Rcd.r x) (Rcd.f x) q=_:=usb_7 hq (by assumption) (by assumption) (by assumption) (by assumption) (by assumption) (by assumption) (by assumption) (by assumption)
         exact G_ cO_ () (l_ rfl (by rw[hu];first|(simp_all;done)|(subst_vars;rfl))) (.refl _) zt
        refine Zz 10 ?_
        refine N_ (fc_ (Rcd.f x) (Rcd.fad x) (Rcd.fcap x) q.r (by have:=hx.f;omega)) rfl f_ zf rfl fun r10 hr10=>?_
        refine Zz 4 ?_
        have hu:dH_ (Rcd.a x) (Rcd.r x) (Rcd.f x) q=_:=usb_9 (by assumption)
        exact G_ cO_ () (l_ rfl (by rw[hu];first|(simp_all;done)|(subst_vars;rfl))) (.refl _) zt
       refine Zz 10 ?_
       refine N_ (fc_ (Rcd.r x) (Rcd.rad x) (Rcd.rcap x) q.r (by have:=hx.r;omega)) rfl f_ zf rfl fun r11 hr11=>?_
       refine Zz 1 ?_
       cases r11
       ·replace hr11:=zdf hr11
        refine Zz 10 ?_
        have hu:dH_ (Rcd.a x) (Rcd.r x) (Rcd.f x) q=_:=sH_ (by assumption)
        exact G_ cO_ () (l_ rfl (by rw[hu];first|(simp_all;done)|(subst_vars;rfl))) (.refl _) zt
       replace hr11:=zdt hr11
       refine Zz 9 ?_
       refine N_ (fc_ (Rcd.r x) (Rcd.rad x) (Rcd.rcap x) q.s (by have:=hx.r;omega)) rfl f_ zf rfl fun r12 hr12=>?_
       refine Zz 5 ?_
       have hu:dH_ (Rcd.a x) (Rcd.r x) (Rcd.f x) q=_:=sH_ (by assumption)
       exact G_ cO_ () (l_ rfl (by rw[hu];first|(simp_all;done)|(subst_vars;rfl))) (.refl _) zt
      refine Zz 10 ?_
      refine N_ (fc_ (Rcd.r x) (Rcd.rad x) (Rcd.rcap x) q.r (by have:=hx.r;omega)) rfl f_ zf rfl fun r13 hr13=>?_
      refine Zz 4 ?_
      have hu:dH_ (Rcd.a x) (Rcd.r x) (Rcd.f x) q=_:=usb_5 (by assumption)
      exact G_ cO_ () (l_ rfl (by rw[hu];first|(simp_all;done)|(subst_vars;rfl))) (.refl _) zt
     refine Zz 10 ?_
     refine N_ (fc_ (Rcd.r x) (Rcd.rad x) (Rcd.rcap x) q.r (by have:=hx.r;omega)) rfl f_ zf rfl fun r14 hr14=>?_
     refine Zz 1 ?_
     cases r14
     ·replace hr14:=zdf hr14
      refine Zz 10 ?_
      have hu:dH_ (Rcd.a x) (Rcd.r x) (Rcd.f x) q=_:=sI_ (by assumption)
      exact G_ cO_ () (l_ rfl (by rw[hu];first|(simp_all;done)|(subst_vars;rfl))) (.refl _) zt
     replace hr14:=zdt hr14
     refine Zz 9 ?_
     refine N_ (fc_ (Rcd.a x) (Rcd.aad x) (Rcd.acap x) q.a (by have:=hx.a;omega)) rfl f_ zf rfl fun r15 hr15=>?_
     refine Zz 5 ?_
     have hu:dH_ (Rcd.a x) (Rcd.r x) (Rcd.f x) q=_:=sI_ (by assumption)
     exact G_ cO_ () (l_ rfl (by rw[hu];first|(simp_all;done)|(subst_vars;rfl))) (.refl _) zt
    refine Zz 10 ?_
    refine N_ (fc_ (Rcd.a x) (Rcd.aad x) (Rcd.acap x) q.a (by have:=hx.a;omega)) rfl f_ zf rfl fun r16 hr16=>?_
    refine Zz 1 ?_
    cases r16
    ·replace hr16:=zdf hr16
     refine Zz 10 ?_
     have hu:dH_ (Rcd.a x) (Rcd.r x) (Rcd.f x) q=_:=sJ_ (by assumption)
     exact G_ cO_ () (l_ rfl (by rw[hu];first|(simp_all;done)|(subst_vars;rfl))) (.refl _) zt
    replace hr16:=zdt hr16
    refine Zz 9 ?_
    refine N_ (fc_ (Rcd.a x) (Rcd.aad x) (Rcd.acap x) q.b (by have:=hx.a;omega)) rfl f_ zf rfl fun r17 hr17=>?_
    refine Zz 5 ?_
    have hu:dH_ (Rcd.a x) (Rcd.r x) (Rcd.f x) q=_:=sJ_ (by assumption)
    exact G_ cO_ () (l_ rfl (by rw[hu];first|(simp_all;done)|(subst_vars;rfl))) (.refl _) zt
   refine Zz 10 ?_
   refine N_ (fc_ (Rcd.a x) (Rcd.aad x) (Rcd.acap x) q.a (by have:=hx.a;omega)) rfl f_ zf rfl fun r18 hr18=>?_
   refine Zz 4 ?_
   have hu:dH_ (Rcd.a x) (Rcd.r x) (Rcd.f x) q=_:=qi_ (.inr (.inr (by assumption)))
   exact G_ cO_ () (l_ rfl (by rw[hu];first|(simp_all;done)|(subst_vars;rfl))) (.refl _) zt
  refine Zz 13 ?_
  refine N_ (fc_ (Rcd.a x) (Rcd.aad x) (Rcd.acap x) q.a (by have:=hx.a;omega)) rfl f_ zf rfl fun r19 hr19=>?_
  refine Zz 4 ?_
  have hu:dH_ (Rcd.a x) (Rcd.r x) (Rcd.f x) q=_:=qi_ (.inr (.inl (by assumption)))
  exact G_ cO_ () (l_ rfl (by rw[hu];first|(simp_all;done)|(subst_vars;rfl))) (.refl _) zt
 refine Zz 13 ?_
 refine N_ (fc_ (Rcd.a x) (Rcd.aad x) (Rcd.acap x) q.a (by have:=hx.a;omega)) rfl f_ zf rfl fun r20 hr20=>?_
 refine Zz 4 ?_
 have hu:dH_ (Rcd.a x) (Rcd.r x) (Rcd.f x) q=_:=qi_ (.inl (by assumption))
 exact G_ cO_ () (l_ rfl (by rw[hu];first|(simp_all;done)|(subst_vars;rfl))) (.refl _) zt
theorem used_c (x:Rcd) (q:Pc) (hx:x.sm) (hk:x.ok) (hs:x.srt) (hN:PcN q):Tri Tryz.prog 93 #[Rcd.val x,Pc.val q] [] [aw_ (Rcd.aad x) (List.flatMap aH_ (Rcd.a x)),aw_ (Rcd.rad x) (List.flatMap aH_ (Rcd.r x)),aw_ (Rcd.fad x) (List.flatMap aH_ (Rcd.f x))] (fun y:{y:Rcd // y.a=fH_ x.a q∧y.r=fl_ x.r q∧y.f=fG_ x.f q∧y.ok}=>y.1.val) (fun _=>[]) (fun y=>y.1.row):=by
 refine o_ Tryz.func93 rfl rfl Tryz.ntmps93 rfl fun v0=>?_
 refine Zz 2 ?_
 refine ah_ rfl rfl fun b1=>ah_ rfl rfl fun b2=>au_ lX_ rfl fun b3=>Zi 13 (fun hr1=>?_) fun hr1=>?_
 ·refine Zi 6 (fun hr2=>?_) fun hr2=>?_
  ·refine Zi 6 (fun hr3=>?_) fun hr3=>?_
   ·refine Zi 5 (fun hr4=>?_) fun hr4=>?_
    ·refine Zi 6 (fun hr5=>?_) fun hr5=>?_
     ·refine Zi 7 (fun hr6=>?_) fun hr6=>?_
      ·refine Zi 5 (fun hr7=>?_) fun hr7=>?_
       ·refine Zi 6 (fun hr8=>?_) fun hr8=>?_
        ·refine Zi 6 (fun hr9=>?_) fun hr9=>?_
         ·refine Zz 9 ?_
          refine aa_ 0 aZ_ rfl rfl rfl rfl rfl rfl (Zz 3 ?_)
          exact fB_ ⟨x,by simp[fH_, *],by simp[fl_, *],by simp[fG_, *],hk.a,hk.r,hk.f⟩ (fun aa v h1 h2=>bZ_ (us:=Rcd.cells x) 0 dM_ dF_ aZ_ rfl rfl rfl aa v h1 h2) f_ zf
         refine Zz 9 ?_
         refine i_ (eo_ (Rcd.f x) (Rcd.fad x) (Rcd.fcap x) q.r (by have:=hx.f;omega) hk.f hs.f (hN.2 ⟨3,q.r⟩ (by simp[an_, *]))) rfl f_ zf rfl fun⟨⟨a1,c1⟩,hc1⟩=>?_
         dsimp only
         refine Zz 1 ?_
         refine aa_ 2 bw_ rfl rfl rfl rfl rfl rfl (Zz 5 ?_)
         refine aa_ 0 aZ_ rfl rfl rfl rfl rfl rfl (Zz 3 ?_)
         exact fB_ ⟨(Rcd.mk (Rcd.a x) (Rcd.aad x) (Rcd.acap x) (Rcd.r x) (Rcd.rad x) (Rcd.rcap x) (bf_ (Rcd.f x) q.r) a1 c1),by simp[fH_, *],by simp[fl_, *],by simp[fG_, *],hk.a,hk.r,hc1⟩ (fun aa v h1 h2=>bZ_ (us:=Rcd.cells (Rcd.mk (Rcd.a x) (Rcd.aad x) (Rcd.acap x) (Rcd.r x) (Rcd.rad x) (Rcd.rcap x) (bf_ (Rcd.f x) q.r) a1 c1)) 0 dM_ dF_ aZ_ rfl rfl rfl aa v h1 h2) f_ zf
        refine Zz 9 ?_
        refine i_ (eo_ (Rcd.r x) (Rcd.rad x) (Rcd.rcap x) q.r (by have:=hx.r;omega) hk.r hs.r (hN.2 ⟨2,q.r⟩ (by simp[an_, *]))) rfl f_ zf rfl fun⟨⟨a2,c2⟩,hc2⟩=>?_
        dsimp only
        refine Zz 1 ?_
        refine aa_ 2 bw_ rfl rfl rfl rfl rfl rfl (Zz 5 ?_)
        refine aa_ 0 aZ_ rfl rfl rfl rfl rfl rfl (Zz 3 ?_)
        exact fB_ ⟨(Rcd.mk (Rcd.a x) (Rcd.aad x) (Rcd.acap x) (bf_ (Rcd.r x) q.r) a2 c2 (Rcd.f x) (Rcd.fad x) (Rcd.fcap x)),by simp[fH_, *],by simp[fl_, *],by simp[fG_, *],hk.a,hc2,hk.f⟩ (fun aa v h1 h2=>bZ_ (us:=Rcd.cells (Rcd.mk (Rcd.a x) (Rcd.aad x) (Rcd.acap x) (bf_ (Rcd.r x) q.r) a2 c2 (Rcd.f x) (Rcd.fad x) (Rcd.fcap x))) 0 dM_ dF_ aZ_ rfl rfl rfl aa v h1 h2) f_ zf
       refine Zz 9 ?_
       refine i_ (eo_ (Rcd.r x) (Rcd.rad x) (Rcd.rcap x) q.t (by have:=hx.r;omega) hk.r hs.r (hN.2 ⟨2,q.t⟩ (by simp[an_, *]))) rfl f_ zf rfl fun⟨⟨a3,c3⟩,hc3⟩=>?_
       dsimp only
       refine Zz 1 ?_
       refine aa_ 2 bw_ rfl rfl rfl rfl rfl rfl (Zz 5 ?_)
       refine aa_ 0 aZ_ rfl rfl rfl rfl rfl rfl (Zz 3 ?_)
       exact fB_ ⟨(Rcd.mk (Rcd.a x) (Rcd.aad x) (Rcd.acap x) (bf_ (Rcd.r x) q.t) a3 c3 (Rcd.f x) (Rcd.fad x) (Rcd.fcap x)),by simp[fH_, *],by simp[fl_, *],by simp[fG_, *],hk.a,hc3,hk.f⟩ (fun aa v h1 h2=>bZ_ (us:=Rcd.cells (Rcd.mk (Rcd.a x) (Rcd.aad x) (Rcd.acap x) (bf_ (Rcd.r x) q.t) a3 c3 (Rcd.f x) (Rcd.fad x) (Rcd.fcap x))) 0 dM_ dF_ aZ_ rfl rfl rfl aa v h1 h2) f_ zf
      refine Zz 12 ?_
      refine i_ (eo_ (Rcd.r x) (Rcd.rad x) (Rcd.rcap x) q.t (by have:=hx.r;omega) hk.r hs.r (hN.2 ⟨2,q.t⟩ (by simp[an_, *]))) rfl f_ zf rfl fun⟨⟨a4,c4⟩,hc4⟩=>?_
      dsimp only
      refine Zz 1 ?_
      refine aa_ 2 bw_ rfl rfl rfl rfl rfl rfl (Zz 5 ?_)
      refine aa_ 0 aZ_ rfl rfl rfl rfl rfl rfl (Zz 3 ?_)
      exact fB_ ⟨(Rcd.mk (Rcd.a x) (Rcd.aad x) (Rcd.acap x) (bf_ (Rcd.r x) q.t) a4 c4 (Rcd.f x) (Rcd.fad x) (Rcd.fcap x)),by simp[fH_, *],by simp[fl_, *],by simp[fG_, *],hk.a,hc4,hk.f⟩ (fun aa v h1 h2=>bZ_ (us:=Rcd.cells (Rcd.mk (Rcd.a x) (Rcd.aad x) (Rcd.acap x) (bf_ (Rcd.r x) q.t) a4 c4 (Rcd.f x) (Rcd.fad x) (Rcd.fcap x))) 0 dM_ dF_ aZ_ rfl rfl rfl aa v h1 h2) f_ zf
     refine Zz 10 ?_
     refine i_ (eo_ (Rcd.a x) (Rcd.aad x) (Rcd.acap x) q.c (by have:=hx.a;omega) hk.a hs.a (hN.2 ⟨1,q.c⟩ (by simp[an_, *]))) rfl f_ zf rfl fun⟨⟨a5,c5⟩,hc5⟩=>?_
     dsimp only
     refine Zz 1 ?_
     refine aa_ 2 bw_ rfl rfl rfl rfl rfl rfl (Zz 7 ?_)
     refine i_ (eo_ (Rcd.r x) (Rcd.rad x) (Rcd.rcap x) q.r (by have:=hx.r;omega) hk.r hs.r (hN.2 ⟨2,q.r⟩ (by simp[an_, *]))) rfl f_ zf rfl fun⟨⟨a6,c6⟩,hc6⟩=>?_
     dsimp only
     refine Zz 1 ?_
     refine aa_ 2 bw_ rfl rfl rfl rfl rfl rfl (Zz 5 ?_)
     refine aa_ 0 aZ_ rfl rfl rfl rfl rfl rfl (Zz 3 ?_)
     exact fB_ ⟨(Rcd.mk (bf_ (Rcd.a x) q.c) a5 c5 (bf_ (Rcd.r x) q.r) a6 c6 (Rcd.f x) (Rcd.fad x) (Rcd.fcap x)),by simp[fH_, *],by simp[fl_, *],by simp[fG_, *],hc5,hc6,hk.f⟩ (fun aa v h1 h2=>bZ_ (us:=Rcd.cells (Rcd.mk (bf_ (Rcd.a x) q.c) a5 c5 (bf_ (Rcd.r x) q.r) a6 c6 (Rcd.f x) (Rcd.fad x) (Rcd.fcap x))) 0 dM_ dF_ aZ_ rfl rfl rfl aa v h1 h2) f_ zf
    refine Zz 9 ?_
    refine i_ (eo_ (Rcd.a x) (Rcd.aad x) (Rcd.acap x) q.c (by have:=hx.a;omega) hk.a hs.a (hN.2 ⟨1,q.c⟩ (by simp[an_, *]))) rfl f_ zf rfl fun⟨⟨a7,c7⟩,hc7⟩=>?_
    dsimp only
    refine Zz 1 ?_
    refine aa_ 2 bw_ rfl rfl rfl rfl rfl rfl (Zz 5 ?_)
    refine aa_ 0 aZ_ rfl rfl rfl rfl rfl rfl (Zz 3 ?_)
    exact fB_ ⟨(Rcd.mk (bf_ (Rcd.a x) q.c) a7 c7 (Rcd.r x) (Rcd.rad x) (Rcd.rcap x) (Rcd.f x) (Rcd.fad x) (Rcd.fcap x)),by simp[fH_, *],by simp[fl_, *],by simp[fG_, *],hc7,hk.r,hk.f⟩ (fun aa v h1 h2=>bZ_ (us:=Rcd.cells (Rcd.mk (bf_ (Rcd.a x) q.c) a7 c7 (Rcd.r x) (Rcd.rad x) (Rcd.rcap x) (Rcd.f x) (Rcd.fad x) (Rcd.fcap x))) 0 dM_ dF_ aZ_ rfl rfl rfl aa v h1 h2) f_ zf
   refine Zz 12 ?_
   refine i_ (eo_ (Rcd.a x) (Rcd.aad x) (Rcd.acap x) q.c (by have:=hx.a;omega) hk.a hs.a (hN.2 ⟨1,q.c⟩ (by simp[an_, *]))) rfl f_ zf rfl fun⟨⟨a8,c8⟩,hc8⟩=>?_
   dsimp only
   refine Zz 1 ?_
   refine aa_ 2 bw_ rfl rfl rfl rfl rfl rfl (Zz 5 ?_)
   refine aa_ 0 aZ_ rfl rfl rfl rfl rfl rfl (Zz 3 ?_)
   exact fB_ ⟨(Rcd.mk (bf_ (Rcd.a x) q.c) a8 c8 (Rcd.r x) (Rcd.rad x) (Rcd.rcap x) (Rcd.f x) (Rcd.fad x) (Rcd.fcap x)),by simp[fH_, *],by simp[fl_, *],by simp[fG_, *],hc8,hk.r,hk.f⟩ (fun aa v h1 h2=>bZ_ (us:=Rcd.cells (Rcd.mk (bf_ (Rcd.a x) q.c) a8 c8 (Rcd.r x) (Rcd.rad x) (Rcd.rcap x) (Rcd.f x) (Rcd.fad x) (Rcd.fcap x))) 0 dM_ dF_ aZ_ rfl rfl rfl aa v h1 h2) f_ zf
  refine Zz 12 ?_
  refine i_ (eo_ (Rcd.a x) (Rcd.aad x) (Rcd.acap x) q.c (by have:=hx.a;omega) hk.a hs.a (hN.2 ⟨1,q.c⟩ (by simp[an_, *]))) rfl f_ zf rfl fun⟨⟨a9,c9⟩,hc9⟩=>?_
  dsimp only
  refine Zz 1 ?_
  refine aa_ 2 bw_ rfl rfl rfl rfl rfl rfl (Zz 5 ?_)
  refine aa_ 0 aZ_ rfl rfl rfl rfl rfl rfl (Zz 3 ?_)
  exact fB_ ⟨(Rcd.mk (bf_ (Rcd.a x) q.c) a9 c9 (Rcd.r x) (Rcd.rad x) (Rcd.rcap x) (Rcd.f x) (Rcd.fad x) (Rcd.fcap x)),by simp[fH_, *],by simp[fl_, *],by simp[fG_, *],hc9,hk.r,hk.f⟩ (fun aa v h1 h2=>bZ_ (us:=Rcd.cells (Rcd.mk (bf_ (Rcd.a x) q.c) a9 c9 (Rcd.r x) (Rcd.rad x) (Rcd.rcap x) (Rcd.f x) (Rcd.fad x) (Rcd.fcap x))) 0 dM_ dF_ aZ_ rfl rfl rfl aa v h1 h2) f_ zf
 refine Zz 12 ?_
 refine i_ (eo_ (Rcd.a x) (Rcd.aad x) (Rcd.acap x) q.c (by have:=hx.a;omega) hk.a hs.a (hN.2 ⟨1,q.c⟩ (by simp[an_, *]))) rfl f_ zf rfl fun⟨⟨a10,c10⟩,hc10⟩=>?_
 dsimp only
 refine Zz 1 ?_
 refine aa_ 2 bw_ rfl rfl rfl rfl rfl rfl (Zz 5 ?_)
 refine aa_ 0 aZ_ rfl rfl rfl rfl rfl rfl (Zz 3 ?_)
 exact fB_ ⟨(Rcd.mk (bf_ (Rcd.a x) q.c) a10 c10 (Rcd.r x) (Rcd.rad x) (Rcd.rcap x) (Rcd.f x) (Rcd.fad x) (Rcd.fcap x)),by simp[fH_, *],by simp[fl_, *],by simp[fG_, *],hc10,hk.r,hk.f⟩ (fun aa v h1 h2=>bZ_ (us:=Rcd.cells (Rcd.mk (bf_ (Rcd.a x) q.c) a10 c10 (Rcd.r x) (Rcd.rad x) (Rcd.rcap x) (Rcd.f x) (Rcd.fad x) (Rcd.fcap x))) 0 dM_ dF_ aZ_ rfl rfl rfl aa v h1 h2) f_ zf
theorem ov_ (x:Rcd) (hx:x.sm):Fn0 Tryz.prog 92 #[Rcd.val x] (.int .i64 ((x.a.length+x.r.length+x.f.length:Nat):Int)):=by
  refine o_ Tryz.func92 rfl rfl Tryz.ntmps92 rfl fun v0=>?_
  have hxa:=hx.a
  have hxr:=hx.r
  have hxf:=hx.f
  refine Zz 2 ?_
  refine ah_ rfl rfl fun b1=>Zz 20 ?_
  have hxa:=hx.a;have hxr:=hx.r;have hxf:=hx.f
  exact G_ Tryz.results92 () (Y_ rfl (by simp)) f_ zt
end Go.Proofs.YtamklbgaipakfaaGreatDoor
namespace Go.Proofs.YtamklbgaipakfaaGreatDoor
open Go Go.Sx Go.Proofs
attribute [local irreducible] Code.wp wpList wpAnyH
open Go.Vs
theorem mq_ (p:List Pc) (pad:Option Addr) (pcap:Nat) (S:List Str) (sad:Option Addr) (scap:Nat) (hN:∀ x∈p,PcN x) (hSn:∀ s∈S,s≠[]) (hp:p.length≤100000000) (hS:S.length≤100000000):Tri Tryz.prog 44 #[.slice pad (List.length p) pcap,.slice sad (List.length S) scap] [] [aw_ pad (List.flatMap Pc.cells p),aw_ sad (List.flatMap aH_ S)] (fun y:{y:Rcd // Rc1 p S y}=>y.1.val) (fun _=>[]) (fun y=>y.1.row):=by
 refine o_ Tryz.func44 rfl rfl Tryz.ntmps44 rfl fun v0=>?_
 refine Zz 2 ?_
 refine au_ lX_ rfl fun b1=>Zz 4 ?_
 refine I_ D_ O_ aR_ rfl rfl rfl rfl rfl rfl fun b2=>?_
 refine ak_ (List.flatMap aH_ [[33],[42]]) t_ rfl ?_
 refine c_ (S_ strt86 rfl rfl) rfl (au_ lX_ rfl fun b3=>aa_ 0 aZ_ rfl rfl rfl rfl rfl rfl (Zz 9 ?_))
 refine aO_ (ι:={y:Nat×List Str×Option Addr×Nat // y.1≤S.length∧RcA (S.take y.1) y.2.1∧(y.2.1.length≤y.2.2.2∧y.2.2.2≤maxLen∧(y.2.2.1=none→y.2.2.2=0))}) (fun y=>[(0,.slice pad (List.length p) pcap),(1,.slice sad (List.length S) scap),(4,zp_ b1 0),(5,zp_ b3 0),(6,.int .i64 (y.1.1:Int))]) (fun y=>((b3,.cells #[.slice y.1.2.2.1 (List.length y.1.2.1) y.1.2.2.2,.slice none 0 0,.slice none 0 0] 86 (0,0))::((b1,.cells #[.slice none 0 0,.slice none 0 0,.slice none 0 0] 86 (0,0))::[]))) (fun y=>[aw_ y.1.2.2.1 (List.flatMap aH_ y.1.2.1),aw_ pad (List.flatMap Pc.cells p),aw_ sad (List.flatMap aH_ S)]) (fun y=>S.length - y.1.1) ⟨(0,[[33],[42]],(some ⟨b2,0,none⟩),2),Nat.zero_le _,RcA.nil,(by simp[maxLen])⟩ zl zp zh ?_
 rintro ⟨⟨i,X,xad,xcap⟩,hi,hX,hxk⟩
 dsimp only at hi hX hxk ⊢
 have hxl:=hX.l
 rw[List.length_take]at hxl
 refine Zi 6 (fun hr1=>?_) fun hr1=>?_
 ·refine Zz 12 ?_
  have et:S.take i=S:=List.take_of_length_le (by omega)
  rw[et]at hX
  refine aO_ (ι:={y:Int×Rcd // RdI p S (Rcd.a y.2) (Rcd.r y.2) (Rcd.f y.2)∧Rcd.ok y.2∧(y.1=-1∨RdR p S y.1 (List.length p) (Rcd.a y.2) (Rcd.r y.2) (Rcd.f y.2))}) (fun y=>[(0,.slice pad (List.length p) pcap),(4,zp_ b1 0),(5,zp_ b3 0),(7,.int .i64 y.1.1)]) (fun y=>((b3,.cells #[.slice (Rcd.aad y.1.2) (List.length (Rcd.a y.1.2)) (Rcd.acap y.1.2),.slice (Rcd.rad y.1.2) (List.length (Rcd.r y.1.2)) (Rcd.rcap y.1.2),.slice (Rcd.fad y.1.2) (List.length (Rcd.f y.1.2)) (Rcd.fcap y.1.2)] 86 (0,0))::((b1,.cells #[.slice none 0 0,.slice none 0 0,.slice none 0 0] 86 (0,0))::[]))) (fun y=>[aw_ (Rcd.aad y.1.2) (List.flatMap aH_ (Rcd.a y.1.2)),aw_ (Rcd.rad y.1.2) (List.flatMap aH_ (Rcd.r y.1.2)),aw_ (Rcd.fad y.1.2) (List.flatMap aH_ (Rcd.f y.1.2)),aw_ pad (List.flatMap Pc.cells p)]) (fun y=>Int.toNat (300000003 - y.1.1)) ⟨((-1),(Rcd.mk X xad xcap [] none 0 [] none 0)),hX.inv,⟨hxk,by simp[maxLen],by simp[maxLen]⟩,.inl rfl⟩ zl zp (fun v _ h=>by exact⟨h.1,.inl rfl,.inl rfl,h.2.1,trivial⟩) ?_
  rintro ⟨⟨n,x⟩,hI,hxk,hn⟩
  dsimp only at hI hxk hn ⊢
  have hsm:=(hI.sm hp hS).1
  have hs9:=(hI.sm hp hS).2
  refine Zz 5 ?_
  refine i_ (ov_ x hsm) rfl f_ zt rfl fun _=>?_
  refine Zi 0 (fun hr2=>?_) fun hr2=>?_
  ·refine Zz 8 ?_
   refine aa_ 1 aZ_ rfl rfl rfl rfl rfl rfl (Zz 3 ?_)
   have hR9:=hn.elim (fun q=>by omega) id
   have hmm:=RdR.fin hR9 (by assumption)
   exact fB_ ⟨x,hmm,⟨hI.sa,hI.sr,hI.sf⟩,hxk,hsm⟩ (fun aa v h1 h2=>bZ_ (us:=Rcd.cells x) 1 Tryz.results44 dF_ aZ_ rfl rfl rfl aa v h1 h2) f_ zf
  refine Zz 9 ?_
  refine i_ (ov_ x hsm) rfl f_ zt rfl fun _=>Zz 9 ?_
  refine aO_ (ι:={y:Nat×Rcd // y.1≤p.length∧RdR p S ((List.length (Rcd.a x)+List.length (Rcd.r x)+List.length (Rcd.f x):Nat):Int) y.1 (Rcd.a y.2) (Rcd.r y.2) (Rcd.f y.2)∧Rcd.ok y.2}) (fun y=>[(0,.slice pad (List.length p) pcap),(4,zp_ b1 0),(5,zp_ b3 0),(7,.int .i64 ((List.length (Rcd.a x)+List.length (Rcd.r x)+List.length (Rcd.f x):Nat):Int)),(8,.int .i64 (y.1.1:Int))]) (fun y=>((b3,.cells #[.slice (Rcd.aad y.1.2) (List.length (Rcd.a y.1.2)) (Rcd.acap y.1.2),.slice (Rcd.rad y.1.2) (List.length (Rcd.r y.1.2)) (Rcd.rcap y.1.2),.slice (Rcd.fad y.1.2) (List.length (Rcd.f y.1.2)) (Rcd.fcap y.1.2)] 86 (0,0))::((b1,.cells #[.slice none 0 0,.slice none 0 0,.slice none 0 0] 86 (0,0))::[]))) (fun y=>[aw_ (Rcd.aad y.1.2) (List.flatMap aH_ (Rcd.a y.1.2)),aw_ (Rcd.rad y.1.2) (List.flatMap aH_ (Rcd.r y.1.2)),aw_ (Rcd.fad y.1.2) (List.flatMap aH_ (Rcd.f y.1.2)),aw_ pad (List.flatMap Pc.cells p)]) (fun y=>p.length - y.1.1) ⟨(0,x),Nat.zero_le _,RdR.start hI,hxk⟩ zl zp zh ?_
  rintro ⟨⟨j,w⟩,hj,hR,hwk⟩
  dsimp only at hj hR hwk ⊢
  have hsmw:=(hR.inv.sm hp hS).1
  refine Zi 6 (fun hr3=>?_) fun hr3=>?_
  ·have jp:j=p.length:=by omega
   refine Zz 5 ?_
   exact R_ ⟨((List.length (Rcd.a x)+List.length (Rcd.r x)+List.length (Rcd.f x):Nat),w),hR.inv,hwk,.inr (jp▸hR)⟩ (by have:=hR.inv.sm hp hS;have:=hR.le;dsimp only;omega) zl (aF_ t_ t_) zh
  obtain⟨hlx1,x1,hx1,hmx1⟩:=zge (show j<List.length p by omega)
  refine Zz 9 ?_
  refine U_ 1 [0,1,2,3,4] zk zs (Zz 6 ?_)
  refine u_ 5 rfl zk (N_ (hM_ w x1 hsmw (hN _ hmx1).1) rfl f_ zf rfl fun r4 hr4=>Zz 5 ?_)
  cases r4
  ·refine Zz 9 ?_
   exact R_ ⟨((j+1),w),hlx1,hR.skip hx1 (by assumption),hwk⟩ (by dsimp only;omega) zl zp zh
  refine E_ rfl ?_
  refine bi_ ((b1,.cells #[.slice none 0 0,.slice none 0 0,.slice none 0 0] 86 (0,0))::[]) zk ?_
  refine U_ 3 [1,2,3,4] zk zs (Zz 5 ?_)
  refine u_ 0 rfl zk (Zz 4 ?_)
  refine u_ 5 rfl zk (i_ (used_c w x1 hsmw hwk ⟨hR.inv.sa,hR.inv.sr,hR.inv.sf⟩ (hN _ hmx1)) rfl f_ zf rfl fun⟨u,hu1,hu2,hu3,hu4⟩=>?_)
  dsimp only
  refine Zz 3 ?_
  refine u_ 6 rfl zk (aa_ 0 aZ_ rfl rfl rfl rfl rfl rfl (Zz 11 ?_))
  exact R_ ⟨((j+1),u),hlx1,(by rw[hu1,hu2,hu3];exact hR.take hx1 (hN _ hmx1) (by assumption)),hu4⟩ (by dsimp only;omega) zl zp zf
 obtain⟨hlx1,x1,hx1,hmx1⟩:=zge (show i<List.length S by omega)
 refine Zz 7 ?_
 refine bi_ ((b1,.cells #[.slice none 0 0,.slice none 0 0,.slice none 0 0] 86 (0,0))::[]) zk ?_
 refine U_ 4 [0,2,3,4,5] zk zs (Zz 6 ?_)
 refine u_ 1 rfl zk (Zz 4 ?_)
 refine u_ 6 rfl zk (i_ (eo_ X xad xcap x1 (by omega) hxk hX.s (hSn _ hmx1)) rfl f_ zf rfl fun⟨⟨wad,wcap⟩,hcw⟩=>?_)
 dsimp only
 refine Zz 3 ?_
 refine U_ 1 [7] zk zs (Zz 2 ?_)
 refine u_ 8 rfl zk (aa_ 0 bw_ rfl rfl rfl rfl rfl rfl (Zz 11 ?_))
 exact R_ ⟨((i+1),(bf_ X x1),wad,wcap),hlx1,(by rw[List.take_add_one,hx1];exact hX.step (hSn _ hmx1)),hcw⟩ (by dsimp only;omega) zl zp zf
end Go.Proofs.YtamklbgaipakfaaGreatDoor
namespace Go.Proofs.YtamklbgaipakfaaGreatDoor
open Go Go.Sx Go.Proofs
attribute [local irreducible] Code.wp wpList wpAnyH
open Go.Vs
theorem js_ (S:List Str) (sad:Option Addr) (scap:Nat) (hS:S.length≤100000000) (hSl:∀ s∈S,s.length≤100000):Tri Tryz.prog 40 #[.slice sad (List.length S) scap] [] [aw_ sad (List.flatMap aH_ S)] (fun _:Unit=>.bool (ep_ S)) (fun _=>[]) (fun _=>[]):=by
 refine o_ Tryz.func40 rfl rfl Tryz.ntmps40 rfl fun v0=>?_
 refine Zz 12 ?_
 refine aO_ (ι:={y:Nat // y≤List.length S∧hG_ S y (fun _ s=>cd_ s=true)}) (fun y=>[(0,.slice sad (List.length S) scap),(2,.bool false),(3,.int .i64 (y.1:Int))]) (fun y=>([])) (fun y=>[aw_ sad (List.flatMap aH_ S)]) (fun y=>List.length S - y.1) ⟨(0:Nat),by simp,hG_.zero⟩ zl f_ zh ?_
 rintro ⟨i,hi_i,hva⟩
 dsimp only at hi_i hva ⊢
 refine Zi 6 (fun hr1=>?_) fun hr1=>?_
 ·refine Zz 9 ?_
  refine s_ (du_ rfl rfl) rfl fun r2 hr2=>Zz 4 ?_
  exact G_ Tryz.results40 () (l_ rfl (by unfold ep_;rw[List.all_eq_true.2 (hva.all (by assumption)),Bool.and_true,← hr2];exact decide_eq_decide.2 (by omega))) f_ zt
 have hls1:i<List.length S:=by omega
 obtain⟨s1,hs1⟩:∃ e0,S[i]? = some e0:=⟨_,List.getElem?_eq_getElem hls1⟩
 have hms1:s1∈S:=List.mem_of_getElem? hs1
 refine Zz 13 ?_
 refine N_ (rU_ s1 (by have:=hSl _ hms1;omega)) rfl f_ zt rfl fun r3 hr3=>?_
 refine c_ (aE_ rfl) rfl (Zz 2 ?_)
 cases r3
 ·refine Zz 7 ?_
  exact G_ Tryz.results40 () (l_ rfl (by unfold ep_;symm;rw[Bool.and_eq_false_iff];right;rw[List.all_eq_false];exact⟨s1,hms1,by simpa using hr3⟩)) f_ zt
 refine Zz 9 ?_
 exact R_ ⟨i+1,hls1,hva.step hs1 hr3⟩ (by dsimp only;omega) zl f_ zh
theorem qK_ (ls:List Ax) (lad:Option Addr) (lcap:Nat) (hll:ls.length≤100000000) (p:List Pc) (pad:Option Addr) (pcap:Nat) (S:List Str) (sad:Option Addr) (scap:Nat) (hN:∀ x∈p,PcN x) (hSn:∀ s∈S,s≠[]) (hp:p.length≤100000000) (hS:S.length≤100000000):Tri Tryz.prog 41 #[.slice lad (List.length ls) lcap,.slice pad (List.length p) pcap,.slice sad (List.length S) scap] [] [cH_ lad ls,aw_ pad (List.flatMap Pc.cells p),aw_ sad (List.flatMap aH_ S)] (fun y:{y:Option Addr×Nat // ((ee_ ls p S (List.length ls))).length≤y.2∧y.2≤maxLen∧(y.1=none→y.2=0)}=>.slice y.1.1 ((ee_ ls p S (List.length ls))).length y.1.2) (fun _=>[]) (fun y=>[aw_ y.1.1 (((ee_ ls p S (List.length ls))).flatMap da_)]):=by
 refine o_ Tryz.func41 rfl rfl Tryz.ntmps41 rfl fun v0=>?_
 refine Zz 9 ?_
 refine i_ (mq_ p pad pcap S sad scap hN hSn hp hS) rfl f_ zf rfl fun⟨x,hx⟩=>?_
 dsimp only
 refine au_ lX_ rfl fun b1=>aa_ 0 aZ_ rfl rfl rfl rfl rfl rfl (Zz 14 ?_)
 refine aO_ (ι:={y:Nat×Value×Hp // y.1≤List.length ls∧zR 3 1 da_ y.2.1 (ee_ ls p S y.1) y.2.2}) (fun y=>[(0,.slice lad (List.length ls) lcap),(1,.slice pad (List.length p) pcap),(6,.slice none 0 0),(7,zp_ b1 0),(8,y.1.2.1),(9,.int .i64 (y.1.1:Int))]) (fun y=>((b1,.cells #[.slice (Rcd.aad x) (List.length (Rcd.a x)) (Rcd.acap x),.slice (Rcd.rad x) (List.length (Rcd.r x)) (Rcd.rcap x),.slice (Rcd.fad x) (List.length (Rcd.f x)) (Rcd.fcap x)] 86 (0,0))::y.1.2.2)) (fun y=>[aw_ (Rcd.aad x) (List.flatMap aH_ (Rcd.a x)),aw_ (Rcd.rad x) (List.flatMap aH_ (Rcd.r x)),aw_ (Rcd.fad x) (List.flatMap aH_ (Rcd.f x)),cH_ lad ls,aw_ pad (List.flatMap Pc.cells p),aw_ sad (List.flatMap aH_ S)]) (fun y=>List.length ls - y.1.1) ⟨((0:Nat),(.slice none 0 0),[]),by simp,(aG_.nil _ _)⟩ zl t_ zh ?_
 rintro ⟨⟨i,sv_Q,H_Q⟩,hi_i,hr_Q⟩
 dsimp only at hi_i hr_Q ⊢
 have hml:=fQ_ (l:=ls) (p:=p) (S:=S) i
 refine Zi 6 (fun hr1=>?_) fun hr1=>?_
 ·refine Zz 12 ?_
  have hw1:aG_ 3 1 sv_Q (List.length (ee_ ls p S (List.length ls))) (List.flatMap da_ (ee_ ls p S (List.length ls))) H_Q:=by have q:=hr_Q;rw[show i=ls.length by omega]at q;exact q
  refine aQ_ hw1 bo_ fun ad2 cp2 had2 hcad2 hmad2 hzad2=>?_
  exact G_ Tryz.results41 ⟨(ad2,cp2),hcad2,hmad2,hzad2⟩ (bO_ rfl had2) f_ zf
 have hlz1:i<List.length ls:=by omega
 obtain⟨z1,hz1⟩:∃ e0,ls[i]? = some e0:=⟨_,List.getElem?_eq_getElem hlz1⟩
 have hmz1:z1∈ls:=List.mem_of_getElem? hz1
 refine Zz 11 ?_
 refine c_ (T_ ae_ ad_ rfl rfl (fun v _ h=>J_ (n:=16) Ax.cells_len (by decide) (by exact h.2.2.2.1.1) hz1) (by omega) (by first|omega|(simp;done))) rfl ?_
 refine Zz 1 ?_
 refine c_ (bu_ (ad:=lad) ay_ rfl (fun v _ h=>by exact h.2.2.2.1.1) (H_ Ax.cells_len hz1 0 _ rfl)) rfl ?_
 refine Zi 0 (fun hr2=>?_) fun hr2=>?_
 ·refine Zz 6 ?_
  refine c_ (T_ ae_ ad_ rfl rfl (fun v _ h=>J_ (n:=16) Ax.cells_len (by decide) (by exact h.2.2.2.1.1) hz1) (by omega) (by first|omega|(simp;done))) rfl ?_
  refine Zz 3 ?_
  refine c_ (bu_ (ad:=lad) ay_ rfl (fun v _ h=>by exact h.2.2.2.1.1) (H_ Ax.cells_len hz1 0 _ rfl)) rfl (ag_ rfl rfl ?_)
  refine Zi 0 (fun hr3=>?_) fun hr3=>?_
  ·refine Zz 7 ?_
   refine c_ (T_ ae_ ad_ rfl rfl (fun v _ h=>J_ (n:=16) Ax.cells_len (by decide) (by exact h.2.2.2.1.1) hz1) (by omega) (by first|omega|(simp;done))) rfl ?_
   refine Zz 3 ?_
   refine c_ (bu_ (ad:=lad) ay_ rfl (fun v _ h=>by exact h.2.2.2.1.1) (H_ Ax.cells_len hz1 0 _ rfl)) rfl (ag_ rfl rfl (s_ (V_ rfl rfl) rfl fun r4 hr4=>Zz 11 ?_))
   refine aO_ (ι:={y:Nat×Bool×Value×Hp // y.1≤List.length p∧MtI z1 x p i y.1 y.2.1∧zR 3 1 da_ y.2.2.1 (ee_ ls p S i) y.2.2.2}) (fun y=>[(0,.slice lad (List.length ls) lcap),(1,.slice pad (List.length p) pcap),(6,.slice none 0 0),(7,zp_ b1 0),(8,y.1.2.2.1),(9,.int .i64 (i:Int)),(10,.bool y.1.2.1),(11,.int .i64 (y.1.1:Int))]) (fun y=>((b1,.cells #[.slice (Rcd.aad x) (List.length (Rcd.a x)) (Rcd.acap x),.slice (Rcd.rad x) (List.length (Rcd.r x)) (Rcd.rcap x),.slice (Rcd.fad x) (List.length (Rcd.f x)) (Rcd.fcap x)] 86 (0,0))::y.1.2.2.2)) (fun y=>[aw_ (Rcd.aad x) (List.flatMap aH_ (Rcd.a x)),aw_ (Rcd.rad x) (List.flatMap aH_ (Rcd.r x)),aw_ (Rcd.fad x) (List.flatMap aH_ (Rcd.f x)),cH_ lad ls,aw_ pad (List.flatMap Pc.cells p),aw_ sad (List.flatMap aH_ S)]) (fun y=>List.length p - y.1.1) ⟨((0:Nat),r4,sv_Q,H_Q),by simp,(MtI.zero (by subst hr4;simp[eR_, *])),hr_Q⟩ zl zp zh ?_
   rintro ⟨⟨k,b,sv_Q,H_Q⟩,hi_k,hbm,hr_Q⟩
   dsimp only at hi_k hbm hr_Q ⊢
   refine Zi 6 (fun hr5=>?_) fun hr5=>?_
   ·refine Zz 14 ?_
    cases b
    ·refine Zz 9 ?_
     exact R_ ⟨(i+1,sv_Q,H_Q),hlz1,(by rw[iY_ (MtI.no hbm hx hz1 (by omega))];exact hr_Q)⟩ (by dsimp only;omega) zl zp zh
    refine Zz 4 ?_
    refine I_ am_ ab_ bb_ rfl rfl rfl rfl rfl rfl fun b2=>?_
    refine aW_ (news:=List.flatMap da_ [(i:Int)]) fz_ hr_Q rfl rfl zp rfl (bv_ 0 rfl) (fun u hu=>cU_ eV_ hu) (by simp only[maxLen];((try simp only[List.length_append,List.length_cons,List.length_nil]);omega)) (by ((try simp only[List.length_append,List.length_cons,List.length_nil]);omega)) rfl fun sv2 Hr2 hr2=>?_
    refine W_ List.perm_append_comm ?_
    have hq2:=zsa hr2
    refine Zz 9 ?_
    exact R_ ⟨(i+1,sv2,Hr2),hlz1,(by rw[ed_ (MtI.yes hbm hx hz1)];exact hq2)⟩ (by dsimp only;omega) zl (aF_ (C_ t_) bo_) zh
   obtain⟨hlx1,x1,hx1,hmx1⟩:=zge (show k<List.length p by omega)
   refine Zz 4 ?_
   refine c_ (aE_ rfl) rfl (Zz 3 ?_)
   cases b
   ·refine Zz 6 ?_
    refine U_ 8 [0,1,2,3,4,5,6,7] zk zs (Zi 6 (fun hr6=>?_) fun hr6=>?_)
    ·refine Zz 2 ?_
     refine U_ 0 [8,9,10,11,12,13,14,15] zk zs (Zz 17 ?_)
     exact R_ ⟨(k+1,false,sv_Q,H_Q),hlx1,hbm.step hx1 (by simp[*]),hr_Q⟩ (by dsimp only;omega) zl zp zh
    refine Zz 2 ?_
    refine U_ 3 [8,9,10,11,12] zk zs (Zz 6 ?_)
    refine u_ 13 rfl zk (ag_ rfl rfl (N_ (hM_ x x1 hx.sm (hN _ hmx1).1) rfl f_ zf rfl fun r7 hr7=>Zz 3 ?_))
    refine U_ 0 [14,15] zk zs (Zz 11 ?_)
    exact R_ ⟨(k+1,r7,sv_Q,H_Q),hlx1,hbm.step hx1 (by rw[← hr7];simp[*]),hr_Q⟩ (by dsimp only;omega) zl zp zh
   refine Zz 12 ?_
   refine I_ am_ ab_ bb_ rfl rfl rfl rfl rfl rfl fun b3=>?_
   refine aW_ (news:=List.flatMap da_ [(i:Int)]) fz_ hr_Q rfl rfl zp rfl (bv_ 0 rfl) (fun u hu=>cU_ eV_ hu) (by simp only[maxLen];((try simp only[List.length_append,List.length_cons,List.length_nil]);omega)) (by ((try simp only[List.length_append,List.length_cons,List.length_nil]);omega)) rfl fun sv3 Hr3 hr3=>?_
   refine W_ List.perm_append_comm ?_
   have hq3:=zsa hr3
   refine Zz 9 ?_
   exact R_ ⟨(i+1,sv3,Hr3),hlz1,(by rw[ed_ (MtI.yes hbm hx hz1)];exact hq3)⟩ (by dsimp only;omega) zl (aF_ (C_ t_) bo_) zh
  refine Zz 19 ?_
  refine aO_ (ι:={y:Nat×Bool×Value×Hp // y.1≤List.length p∧MtI z1 x p i y.1 y.2.1∧zR 3 1 da_ y.2.2.1 (ee_ ls p S i) y.2.2.2}) (fun y=>[(0,.slice lad (List.length ls) lcap),(1,.slice pad (List.length p) pcap),(6,.slice none 0 0),(7,zp_ b1 0),(8,y.1.2.2.1),(9,.int .i64 (i:Int)),(10,.bool y.1.2.1),(11,.int .i64 (y.1.1:Int))]) (fun y=>((b1,.cells #[.slice (Rcd.aad x) (List.length (Rcd.a x)) (Rcd.acap x),.slice (Rcd.rad x) (List.length (Rcd.r x)) (Rcd.rcap x),.slice (Rcd.fad x) (List.length (Rcd.f x)) (Rcd.fcap x)] 86 (0,0))::y.1.2.2.2)) (fun y=>[aw_ (Rcd.aad x) (List.flatMap aH_ (Rcd.a x)),aw_ (Rcd.rad x) (List.flatMap aH_ (Rcd.r x)),aw_ (Rcd.fad x) (List.flatMap aH_ (Rcd.f x)),cH_ lad ls,aw_ pad (List.flatMap Pc.cells p),aw_ sad (List.flatMap aH_ S)]) (fun y=>List.length p - y.1.1) ⟨((0:Nat),true,sv_Q,H_Q),by simp,(MtI.zero (by simp[eR_, *])),hr_Q⟩ zl zp zh ?_
  rintro ⟨⟨k,b,sv_Q,H_Q⟩,hi_k,hbm,hr_Q⟩
  dsimp only at hi_k hbm hr_Q ⊢
  refine Zi 6 (fun hr8=>?_) fun hr8=>?_
  ·refine Zz 14 ?_
   cases b
   ·refine Zz 9 ?_
    exact R_ ⟨(i+1,sv_Q,H_Q),hlz1,(by rw[iY_ (MtI.no hbm hx hz1 (by omega))];exact hr_Q)⟩ (by dsimp only;omega) zl zp zh
   refine Zz 4 ?_
   refine I_ am_ ab_ bb_ rfl rfl rfl rfl rfl rfl fun b4=>?_
   refine aW_ (news:=List.flatMap da_ [(i:Int)]) fz_ hr_Q rfl rfl zp rfl (bv_ 0 rfl) (fun u hu=>cU_ eV_ hu) (by simp only[maxLen];((try simp only[List.length_append,List.length_cons,List.length_nil]);omega)) (by ((try simp only[List.length_append,List.length_cons,List.length_nil]);omega)) rfl fun sv4 Hr4 hr4=>?_
   refine W_ List.perm_append_comm ?_
   have hq4:=zsa hr4
   refine Zz 9 ?_
   exact R_ ⟨(i+1,sv4,Hr4),hlz1,(by rw[ed_ (MtI.yes hbm hx hz1)];exact hq4)⟩ (by dsimp only;omega) zl (aF_ (C_ t_) bo_) zh
  obtain⟨hlx1,x1,hx1,hmx1⟩:=zge (show k<List.length p by omega)
  refine Zz 4 ?_
  refine c_ (aE_ rfl) rfl (Zz 3 ?_)
  cases b
  ·refine Zz 6 ?_
   refine U_ 8 [0,1,2,3,4,5,6,7] zk zs (Zi 6 (fun hr9=>?_) fun hr9=>?_)
   ·refine Zz 2 ?_
    refine U_ 0 [8,9,10,11,12,13,14,15] zk zs (Zz 17 ?_)
    exact R_ ⟨(k+1,false,sv_Q,H_Q),hlx1,hbm.step hx1 (by simp[*]),hr_Q⟩ (by dsimp only;omega) zl zp zh
   refine Zz 2 ?_
   refine U_ 3 [8,9,10,11,12] zk zs (Zz 6 ?_)
   refine u_ 13 rfl zk (ag_ rfl rfl (N_ (hM_ x x1 hx.sm (hN _ hmx1).1) rfl f_ zf rfl fun r10 hr10=>Zz 3 ?_))
   refine U_ 0 [14,15] zk zs (Zz 11 ?_)
   exact R_ ⟨(k+1,r10,sv_Q,H_Q),hlx1,hbm.step hx1 (by rw[← hr10];simp[*]),hr_Q⟩ (by dsimp only;omega) zl zp zh
  refine Zz 12 ?_
  refine I_ am_ ab_ bb_ rfl rfl rfl rfl rfl rfl fun b5=>?_
  refine aW_ (news:=List.flatMap da_ [(i:Int)]) fz_ hr_Q rfl rfl zp rfl (bv_ 0 rfl) (fun u hu=>cU_ eV_ hu) (by simp only[maxLen];((try simp only[List.length_append,List.length_cons,List.length_nil]);omega)) (by ((try simp only[List.length_append,List.length_cons,List.length_nil]);omega)) rfl fun sv5 Hr5 hr5=>?_
  refine W_ List.perm_append_comm ?_
  have hq5:=zsa hr5
  refine Zz 9 ?_
  exact R_ ⟨(i+1,sv5,Hr5),hlz1,(by rw[ed_ (MtI.yes hbm hx hz1)];exact hq5)⟩ (by dsimp only;omega) zl (aF_ (C_ t_) bo_) zh
 refine Zz 26 ?_
 refine aO_ (ι:={y:Nat×Bool×Value×Hp // y.1≤List.length p∧MtI z1 x p i y.1 y.2.1∧zR 3 1 da_ y.2.2.1 (ee_ ls p S i) y.2.2.2}) (fun y=>[(0,.slice lad (List.length ls) lcap),(1,.slice pad (List.length p) pcap),(6,.slice none 0 0),(7,zp_ b1 0),(8,y.1.2.2.1),(9,.int .i64 (i:Int)),(10,.bool y.1.2.1),(11,.int .i64 (y.1.1:Int))]) (fun y=>((b1,.cells #[.slice (Rcd.aad x) (List.length (Rcd.a x)) (Rcd.acap x),.slice (Rcd.rad x) (List.length (Rcd.r x)) (Rcd.rcap x),.slice (Rcd.fad x) (List.length (Rcd.f x)) (Rcd.fcap x)] 86 (0,0))::y.1.2.2.2)) (fun y=>[aw_ (Rcd.aad x) (List.flatMap aH_ (Rcd.a x)),aw_ (Rcd.rad x) (List.flatMap aH_ (Rcd.r x)),aw_ (Rcd.fad x) (List.flatMap aH_ (Rcd.f x)),cH_ lad ls,aw_ pad (List.flatMap Pc.cells p),aw_ sad (List.flatMap aH_ S)]) (fun y=>List.length p - y.1.1) ⟨((0:Nat),true,sv_Q,H_Q),by simp,(MtI.zero (by simp[eR_, *])),hr_Q⟩ zl zp zh ?_
 rintro ⟨⟨k,b,sv_Q,H_Q⟩,hi_k,hbm,hr_Q⟩
 dsimp only at hi_k hbm hr_Q ⊢
 refine Zi 6 (fun hr11=>?_) fun hr11=>?_
 ·refine Zz 14 ?_
  cases b
  ·refine Zz 9 ?_
   exact R_ ⟨(i+1,sv_Q,H_Q),hlz1,(by rw[iY_ (MtI.no hbm hx hz1 (by omega))];exact hr_Q)⟩ (by dsimp only;omega) zl zp zh
  refine Zz 4 ?_
  refine I_ am_ ab_ bb_ rfl rfl rfl rfl rfl rfl fun b6=>?_
  refine aW_ (news:=List.flatMap da_ [(i:Int)]) fz_ hr_Q rfl rfl zp rfl (bv_ 0 rfl) (fun u hu=>cU_ eV_ hu) (by simp only[maxLen];((try simp only[List.length_append,List.length_cons,List.length_nil]);omega)) (by ((try simp only[List.length_append,List.length_cons,List.length_nil]);omega)) rfl fun sv6 Hr6 hr6=>?_
  refine W_ List.perm_append_comm ?_
  have hq6:=zsa hr6
  refine Zz 9 ?_
  exact R_ ⟨(i+1,sv6,Hr6),hlz1,(by rw[ed_ (MtI.yes hbm hx hz1)];exact hq6)⟩ (by dsimp only;omega) zl (aF_ (C_ t_) bo_) zh
 obtain⟨hlx1,x1,hx1,hmx1⟩:=zge (show k<List.length p by omega)
 refine Zz 4 ?_
 refine c_ (aE_ rfl) rfl (Zz 3 ?_)
 cases b
 ·refine Zz 6 ?_
  refine U_ 8 [0,1,2,3,4,5,6,7] zk zs (Zi 6 (fun hr12=>?_) fun hr12=>?_)
  ·refine Zz 2 ?_
   refine U_ 0 [8,9,10,11,12,13,14,15] zk zs (Zz 17 ?_)
   exact R_ ⟨(k+1,false,sv_Q,H_Q),hlx1,hbm.step hx1 (by simp[*]),hr_Q⟩ (by dsimp only;omega) zl zp zh
  refine Zz 2 ?_
  refine U_ 3 [8,9,10,11,12] zk zs (Zz 6 ?_)
  refine u_ 13 rfl zk (ag_ rfl rfl (N_ (hM_ x x1 hx.sm (hN _ hmx1).1) rfl f_ zf rfl fun r13 hr13=>Zz 3 ?_))
  refine U_ 0 [14,15] zk zs (Zz 11 ?_)
  exact R_ ⟨(k+1,r13,sv_Q,H_Q),hlx1,hbm.step hx1 (by rw[← hr13];simp[*]),hr_Q⟩ (by dsimp only;omega) zl zp zh
 refine Zz 12 ?_
 refine I_ am_ ab_ bb_ rfl rfl rfl rfl rfl rfl fun b7=>?_
 refine aW_ (news:=List.flatMap da_ [(i:Int)]) fz_ hr_Q rfl rfl zp rfl (bv_ 0 rfl) (fun u hu=>cU_ eV_ hu) (by simp only[maxLen];((try simp only[List.length_append,List.length_cons,List.length_nil]);omega)) (by ((try simp only[List.length_append,List.length_cons,List.length_nil]);omega)) rfl fun sv7 Hr7 hr7=>?_
 refine W_ List.perm_append_comm ?_
 have hq7:=zsa hr7
 refine Zz 9 ?_
 exact R_ ⟨(i+1,sv7,Hr7),hlz1,(by rw[ed_ (MtI.yes hbm hx hz1)];exact hq7)⟩ (by dsimp only;omega) zl (aF_ (C_ t_) bo_) zh
end Go.Proofs.YtamklbgaipakfaaGreatDoor
