/-
  Part of the proof of the law ModuleShrinks over this seat: the small logic, the data, the contracts of functions (no condition).
-/
import Derived.Test.YtamklbgaipakfaaGreatDoorQModuleShrinks14
import Derived.Test.YtamklbgaipakfaaGreatDoorQModuleShrinks6
import Derived.Test.YtamklbgaipakfaaGreatDoorQModuleShrinks3
import Derived.Test.YtamklbgaipakfaaGreatDoorRows
import Derived.Test.YtamklbgaipakfaaGreatDoorQModuleShrinks9
import Derived.Test.YtamklbgaipakfaaGreatDoorProg
set_option linter.unusedVariables false
set_option linter.unusedSimpArgs false
set_option linter.unusedSectionVars false
set_option maxHeartbeats 1000000
namespace Go.Proofs.YtamklbgaipakfaaGreatDoor
open Go Go.Sx Go.Proofs
attribute [local irreducible] Code.wp wpList wpAnyH
open Go.Vs
set_option maxHeartbeats 1000000 in
theorem moduleShrinks_c (hsane:Tri Tryz.prog 8 #[] [] [bn_] (fun _:Unit=>.bool true) (fun _=>[]) (fun _=>[])) (ls:List Ax) (lad:Option Addr) (lcap:Nat) (hcap:ls.length≤lcap∧lcap≤2199023255488) (hok:∀ x∈ls,x.ok) (S:List Str) (sd0:Option Addr) (scap:Nat) (hSb:S.length≤8796093021952) (hSc:S.length≤scap) (hSl:∀ s∈S,s.length≤140737488351232) (n:Int):Tri Tryz.prog 4 #[.agg #[.slice lad (List.length ls) lcap],.slice sd0 (List.length S) scap,.int .i64 n] [] [aR_ lad ls,ac_ sd0 (List.flatMap aJ_ S),bn_] (fun _:Unit=>.bool true) (fun _=>[]) (fun _=>[]):=by
 refine j_ Tryz.func4 rfl rfl Tryz.ntmps4 rfl fun v0=>?_
 refine Zz 2 ?_
 refine N_ rfl rfl fun b1=>Zz 6 ?_
 refine d_ (hsane) rfl e_ zf rfl fun _=>c_ (aG_ rfl) rfl (Zz 10 ?_)
 refine d_ (uK_ ls lad lcap hcap hok) rfl e_ zf rfl fun⟨fb,hfb⟩=>?_
 dsimp only
 refine c_ (aG_ rfl) rfl (Zz 1 ?_)
 cases fb
 ·refine Zz 23 ?_
  exact E_ hG_ () rfl e_ zt
 obtain⟨h12,hfw⟩:=hfb rfl
 refine Zz 3 ?_
 refine d_ (qR_ S sd0 scap hSb hSl) rfl e_ zf rfl fun⟨sb,hsb⟩=>?_
 dsimp only
 refine az_ rfl rfl (c_ (aG_ rfl) rfl (Zz 2 ?_))
 cases sb
 ·refine Zz 18 ?_
  exact E_ hG_ () rfl e_ zt
 obtain⟨hS8,hS3⟩:=hsb rfl
 have hSl2:∀ s∈S,s.length≤100000:=fun s hs=>by have:=hS3 s hs;omega
 refine Zi 3 (fun hr1=>?_) fun hr1=>?_
 ·refine Zi 9 (fun hr2=>?_) fun hr2=>?_
  ·refine Zz 7 ?_
   obtain⟨kn,rfl⟩:∃ k:Nat,n=(k:Int):=⟨n.toNat,by omega⟩
   refine Zz 3 ?_
   refine d_ (fG_ ls lad lcap hok h12 S sd0 scap (by omega) hSl2) rfl e_ zf rfl fun⟨⟨svX,HqX,X,e⟩,hsX,hxX⟩=>?_
   dsimp only
   try dsimp only at hsX hxX
   refine bu_ hsX aI_ fun xad xcap hxad hcxad hmxad hzxad=>?_
   subst hxad
   have hsubX:=ExR.sub hxX
   have hlenX:=ExR.len hxX
   have hokX:∀ x∈X,x.ok:=fun x hx=>hok x (hsubX x hx)
   refine fe_ (Γ':=aR_ xad X::[ac_ xad (List.flatMap Ax.cells X),aR_ lad ls,ac_ sd0 (List.flatMap aJ_ S),bn_]) (fun v _ h=>⟨⟨h.1,fun x hx=>(h.2.1).2 x (hsubX x hx)⟩,h⟩) ?_
   refine Zz 3 ?_
   refine G_ cQ_ rfl fun b2=>n_ 0 bl_ rfl rfl rfl rfl rfl rfl (Zi 7 (fun hr3=>?_) fun hr3=>?_)
   ·have he:e=0:=by simpa using hr3
    refine Zz 6 ?_
    have hb0:=(qn_ hxX he).1
    have hck:=iR_ (kG_ hb0).1
    have hzL:∀ x∈ls,x.left.sz≤64∧x.right.sz≤64:=fun x hx=>kJ_ (hck x hx)
    have hzX:∀ x∈X,x.left.sz≤64∧x.right.sz≤64:=fun x hx=>hzL x (hsubX x hx)
    refine Zz 1 ?_
    refine Q_ 7 [0,1,2,3] zk zs (Zz 3 ?_)
    refine P_ rfl (aA_ (df_ (i:=0) (j:=kn) (kl:=.i64) (kh:=.i64) t_ ah_ rfl rfl rfl (by omega) (by have:=hSc;omega)) (show _=Value.slice (sad sd0 scap 0 1) (List.length (List.take kn S)) (scap - 0) by rw[List.length_take,Nat.min_eq_left (by omega)];rfl)) rfl ?_
    refine ba_ ?_
    refine jD_ 4 8 rfl rfl zk ?_ ?_
    ·refine d_ (fG_ ls lad lcap hok h12 (List.take kn S) (sad sd0 scap 0 1) (scap - 0) (by rw[List.length_take];omega) (fun s hs=>hSl2 s (List.mem_of_mem_take hs))) rfl e_ (fun v _ h=>by exact⟨h.2.2.1,h.2.2.2.2.1,(bA_.slice ak_ h.2.2.2.1 hSc 0 kn),trivial⟩) rfl fun⟨⟨svY,HqY,Y,f⟩,hsY,hxY⟩=>?_
     dsimp only
     try dsimp only at hsY hxY
     refine bu_ hsY aI_ fun yad ycap hyad hcyad hmyad hzyad=>?_
     subst hyad
     have hsubY:=ExR.sub hxY
     have hlenY:=ExR.len hxY
     refine fe_ (Γ':=aR_ yad Y::[ac_ yad (List.flatMap Ax.cells Y),aR_ xad X,ac_ xad (List.flatMap Ax.cells X),aR_ lad ls,ac_ sd0 (List.flatMap aJ_ S),bn_]) (fun v _ h=>⟨⟨h.1,fun x hx=>(h.2.2.2.1).2 x (hsubY x hx)⟩,h⟩) ?_
     refine Zz 3 ?_
     refine Q_ 3 [5,6,7] zk zs (Zz 4 ?_)
     refine p_ 8 rfl zk (G_ cQ_ rfl fun b3=>Zz 3 ?_)
     refine p_ 9 rfl zk (n_ 0 bl_ rfl rfl rfl rfl rfl rfl (Zz 3 ?_))
     refine Q_ 0 [10] zk zs (Zz 8 ?_)
     refine d_ (fG_ X xad xcap hokX (by omega) S sd0 scap (by omega) hSl2) rfl e_ zf rfl fun⟨⟨svZ,HqZ,Z,g⟩,hsZ,hxZ⟩=>?_
     dsimp only
     try dsimp only at hsZ hxZ
     refine bu_ hsZ aI_ fun zad zcap hzad hczad hmzad hzzad=>?_
     subst hzad
     have hsubZ:=ExR.sub hxZ
     have hlenZ:=ExR.len hxZ
     refine fe_ (Γ':=aR_ zad Z::[ac_ zad (List.flatMap Ax.cells Z),aR_ yad Y,ac_ yad (List.flatMap Ax.cells Y),aR_ xad X,ac_ xad (List.flatMap Ax.cells X),aR_ lad ls,ac_ sd0 (List.flatMap aJ_ S),bn_]) (fun v _ h=>⟨⟨h.1,fun x hx=>(h.2.2.2.2.2.1).2 x (hsubX x (hsubZ x hx))⟩,h⟩) ?_
     refine Zz 3 ?_
     refine G_ cQ_ rfl fun b4=>n_ 0 bl_ rfl rfl rfl rfl rfl rfl (Zz 5 ?_)
     obtain⟨hf0,hg0,hbX,hZX,hYf,hXf⟩:=pQ_ h12 hok hxX he hxY hxZ
     refine Zi 2 (fun hr4=>?_) fun hr4=>?_
     ·refine Zi 4 (fun hr5=>?_) fun hr5=>?_
      ·refine Zz 7 ?_
       refine d_ (pR_ X xad xcap Z zad zcap hokX (fun x hx=>hokX x (hsubZ x hx)) (fun x hx=>⟨by have:=(hzX x hx).1;omega,by have:=(hzX x hx).2;omega⟩) (fun x hx=>⟨by have:=(hzX x (hsubZ x hx)).1;omega,by have:=(hzX x (hsubZ x hx)).2;omega⟩) (by omega)) rfl e_ zf rfl fun⟨bb,hbb⟩=>?_
       dsimp only
       refine az_ rfl rfl (c_ (aG_ rfl) rfl (Zz 2 ?_))
       cases bb
       ·exact absurd (hbb hZX.symm) (by simp)
       refine Zz 3 ?_
       refine d_ (gJ_ X xad xcap hokX (by omega)) rfl e_ zf rfl fun⟨e0,he0⟩=>?_
       dsimp only
       refine az_ rfl rfl ?_
       refine Zi 0 (fun hr6=>?_) fun hr6=>?_
       ·refine Zz 13 ?_
        refine Y_ (ι:={y:Nat // y≤List.length Y}) (fun y=>[(3,zp_ b1 0),(6,.bool false),(7,zp_ b2 0),(9,zp_ b3 0),(13,.int .i64 (y.1:Int))]) (fun y=>((b4,.cells #[.slice zad (List.length Z) zcap] 37 (0,0))::((b3,.cells #[.slice yad (List.length Y) ycap] 37 (0,0))::((b2,.cells #[.slice xad (List.length X) xcap] 37 (0,0))::((b1,.cells #[.slice lad (List.length ls) lcap] 37 (0,0))::[]))))) (fun y=>[aR_ zad Z,ac_ zad (List.flatMap Ax.cells Z),aR_ yad Y,ac_ yad (List.flatMap Ax.cells Y),aR_ xad X,ac_ xad (List.flatMap Ax.cells X),aR_ lad ls,ac_ sd0 (List.flatMap aJ_ S),bn_]) (fun y=>List.length Y - y.1) ⟨(0:Nat),by simp⟩ zl zp zh ?_
        rintro ⟨i,hi_i⟩
        dsimp only at hi_i ⊢
        refine Zi 7 (fun hr7=>?_) fun hr7=>?_
        ·refine Zz 12 ?_
         refine Y_ (ι:={y:Nat // y≤List.length X}) (fun y=>[(3,zp_ b1 0),(6,.bool false),(7,zp_ b2 0),(9,zp_ b3 0),(13,.int .i64 (i:Int)),(16,.int .i64 (y.1:Int))]) (fun y=>((b4,.cells #[.slice zad (List.length Z) zcap] 37 (0,0))::((b3,.cells #[.slice yad (List.length Y) ycap] 37 (0,0))::((b2,.cells #[.slice xad (List.length X) xcap] 37 (0,0))::((b1,.cells #[.slice lad (List.length ls) lcap] 37 (0,0))::[]))))) (fun y=>[aR_ zad Z,ac_ zad (List.flatMap Ax.cells Z),aR_ yad Y,ac_ yad (List.flatMap Ax.cells Y),aR_ xad X,ac_ xad (List.flatMap Ax.cells X),aR_ lad ls,ac_ sd0 (List.flatMap aJ_ S),bn_]) (fun y=>List.length X - y.1) ⟨(0:Nat),by simp⟩ zl zp zh ?_
         rintro ⟨j,hi_j⟩
         dsimp only at hi_j ⊢
         refine Zi 7 (fun hr8=>?_) fun hr8=>?_
         ·refine Zz 11 ?_
          exact E_ hG_ () rfl e_ zt
         obtain⟨hlx1,x1,hx1,hmx1⟩:=zge (show j<List.length X by omega)
         refine Zz 9 ?_
         refine Q_ 6 [0,1,2,3,4,5] zk zs (Zz 4 ?_)
         refine P_ rfl (C_ s_ f_ rfl rfl (fun v _ h=>q_ (n:=16) Ax.cells_len (by decide) (by exact h.2.2.2.2.2.1) hx1) (by omega) (by first|omega|(simp;done))) rfl ?_
         refine P_ rfl (L_ (ad:=xad) (us:=Ax.cells x1) K_ f_ rfl zf (Ax.cells_len _) (o_ Ax.cells_len hx1)) rfl (ba_ (p_ 6 rfl zk (d_ (mG_ ls lad lcap hok (fun x hx=>⟨by have:=(hzL x hx).1;omega,by have:=(hzL x hx).2;omega⟩) (by omega) x1 (hokX x1 hmx1)) rfl e_ (fun v _ h=>by exact⟨h.2.2.2.2.2.2.1,(h.2.2.2.2.1.2 x1 hmx1),h.2.2.2.2.2.2.2.2.1,trivial⟩) rfl fun⟨⟨ix,ok2⟩,hfi⟩=>?_)))
         dsimp only
         try dsimp only at hfi
         refine Zz 3 ?_
         refine Q_ 0 [7,8,9,10,11] zk zs (Zz 11 ?_)
         refine c_ (aG_ rfl) rfl (Zz 2 ?_)
         cases ok2
         ·exact absurd (hfi.2 (hXf x1 hmx1)) (by simp)
         refine Zz 9 ?_
         exact z_ ⟨j+1,hlx1⟩ (by dsimp only;omega) zl zp zh
        have hly1:i<List.length Y:=by omega
        obtain⟨y1,hy1⟩:∃ e0,Y[i]? = some e0:=⟨_,List.getElem?_eq_getElem hly1⟩
        have hmy1:y1∈Y:=List.mem_of_getElem? hy1
        refine Zz 9 ?_
        refine Q_ 6 [0,1,2,3,4,5] zk zs (Zz 4 ?_)
        refine P_ rfl (C_ s_ f_ rfl rfl (fun v _ h=>q_ (n:=16) Ax.cells_len (by decide) (by exact h.2.2.2.1) hy1) (by omega) (by first|omega|(simp;done))) rfl ?_
        refine P_ rfl (L_ (ad:=yad) (us:=Ax.cells y1) K_ f_ rfl zf (Ax.cells_len _) (o_ Ax.cells_len hy1)) rfl (ba_ (p_ 6 rfl zk (d_ (mG_ X xad xcap hokX (fun x hx=>⟨by have:=(hzX x hx).1;omega,by have:=(hzX x hx).2;omega⟩) (by omega) y1 (hok y1 (hsubY y1 hmy1))) rfl e_ (fun v _ h=>by exact⟨h.2.2.2.2.1,(h.2.2.1.2 y1 hmy1),h.2.2.2.2.2.2.2.2.1,trivial⟩) rfl fun⟨⟨ix,ok1⟩,hfi⟩=>?_)))
        dsimp only
        try dsimp only at hfi
        refine Zz 3 ?_
        refine Q_ 0 [7,8,9,10,11] zk zs (Zz 11 ?_)
        refine c_ (aG_ rfl) rfl (Zz 2 ?_)
        cases ok1
        ·exact absurd (hfi.2 (hYf y1 hmy1)) (by simp)
        refine Zz 9 ?_
        exact z_ ⟨i+1,hly1⟩ (by dsimp only;omega) zl zp zh
       exact absurd (he0.uniq hbX) hr6
      exact absurd hg0 hr5
     exact absurd hf0 hr4
    refine G_ cQ_ rfl fun b5=>Zz 3 ?_
    refine p_ 4 rfl zk (d_ (fG_ ls lad lcap hok h12 (List.take kn S) (sad sd0 scap 0 1) (scap - 0) (by rw[List.length_take];omega) (fun s hs=>hSl2 s (List.mem_of_mem_take hs))) rfl e_ (fun v _ h=>by exact⟨h.2.2.1,h.2.2.2.2.1,(bA_.slice ak_ h.2.2.2.1 hSc 0 kn),trivial⟩) rfl fun⟨⟨svY,HqY,Y,f⟩,hsY,hxY⟩=>?_)
    dsimp only
    try dsimp only at hsY hxY
    refine bu_ hsY aI_ fun yad ycap hyad hcyad hmyad hzyad=>?_
    subst hyad
    have hsubY:=ExR.sub hxY
    have hlenY:=ExR.len hxY
    refine fe_ (Γ':=aR_ yad Y::[ac_ yad (List.flatMap Ax.cells Y),aR_ xad X,ac_ xad (List.flatMap Ax.cells X),aR_ lad ls,ac_ sd0 (List.flatMap aJ_ S),bn_]) (fun v _ h=>⟨⟨h.1,fun x hx=>(h.2.2.2.1).2 x (hsubY x hx)⟩,h⟩) ?_
    refine Zz 3 ?_
    refine Q_ 2 [5,6,7] zk zs (Zz 4 ?_)
    refine p_ 9 rfl zk (n_ 0 bl_ rfl rfl rfl rfl rfl rfl (Zz 3 ?_))
    refine Q_ 0 [10] zk zs (Zz 8 ?_)
    refine d_ (fG_ X xad xcap hokX (by omega) S sd0 scap (by omega) hSl2) rfl e_ zf rfl fun⟨⟨svZ,HqZ,Z,g⟩,hsZ,hxZ⟩=>?_
    dsimp only
    try dsimp only at hsZ hxZ
    refine bu_ hsZ aI_ fun zad zcap hzad hczad hmzad hzzad=>?_
    subst hzad
    have hsubZ:=ExR.sub hxZ
    have hlenZ:=ExR.len hxZ
    refine fe_ (Γ':=aR_ zad Z::[ac_ zad (List.flatMap Ax.cells Z),aR_ yad Y,ac_ yad (List.flatMap Ax.cells Y),aR_ xad X,ac_ xad (List.flatMap Ax.cells X),aR_ lad ls,ac_ sd0 (List.flatMap aJ_ S),bn_]) (fun v _ h=>⟨⟨h.1,fun x hx=>(h.2.2.2.2.2.1).2 x (hsubX x (hsubZ x hx))⟩,h⟩) ?_
    refine Zz 3 ?_
    refine G_ cQ_ rfl fun b6=>n_ 0 bl_ rfl rfl rfl rfl rfl rfl (Zz 5 ?_)
    obtain⟨hf0,hg0,hbX,hZX,hYf,hXf⟩:=pQ_ h12 hok hxX he hxY hxZ
    refine Zi 2 (fun hr9=>?_) fun hr9=>?_
    ·refine Zi 4 (fun hr10=>?_) fun hr10=>?_
     ·refine Zz 7 ?_
      refine d_ (pR_ X xad xcap Z zad zcap hokX (fun x hx=>hokX x (hsubZ x hx)) (fun x hx=>⟨by have:=(hzX x hx).1;omega,by have:=(hzX x hx).2;omega⟩) (fun x hx=>⟨by have:=(hzX x (hsubZ x hx)).1;omega,by have:=(hzX x (hsubZ x hx)).2;omega⟩) (by omega)) rfl e_ zf rfl fun⟨bb,hbb⟩=>?_
      dsimp only
      refine az_ rfl rfl (c_ (aG_ rfl) rfl (Zz 2 ?_))
      cases bb
      ·exact absurd (hbb hZX.symm) (by simp)
      refine Zz 3 ?_
      refine d_ (gJ_ X xad xcap hokX (by omega)) rfl e_ zf rfl fun⟨e0,he0⟩=>?_
      dsimp only
      refine az_ rfl rfl ?_
      refine Zi 0 (fun hr11=>?_) fun hr11=>?_
      ·refine Zz 13 ?_
       refine Y_ (ι:={y:Nat // y≤List.length Y}) (fun y=>[(3,zp_ b1 0),(6,.bool false),(7,zp_ b2 0),(9,zp_ b5 0),(13,.int .i64 (y.1:Int))]) (fun y=>((b6,.cells #[.slice zad (List.length Z) zcap] 37 (0,0))::((b5,.cells #[.slice yad (List.length Y) ycap] 37 (0,0))::((b2,.cells #[.slice xad (List.length X) xcap] 37 (0,0))::((b1,.cells #[.slice lad (List.length ls) lcap] 37 (0,0))::[]))))) (fun y=>[aR_ zad Z,ac_ zad (List.flatMap Ax.cells Z),aR_ yad Y,ac_ yad (List.flatMap Ax.cells Y),aR_ xad X,ac_ xad (List.flatMap Ax.cells X),aR_ lad ls,ac_ sd0 (List.flatMap aJ_ S),bn_]) (fun y=>List.length Y - y.1) ⟨(0:Nat),by simp⟩ zl zp zh ?_
       rintro ⟨i,hi_i⟩
       dsimp only at hi_i ⊢
       refine Zi 7 (fun hr12=>?_) fun hr12=>?_
       ·refine Zz 12 ?_
        refine Y_ (ι:={y:Nat // y≤List.length X}) (fun y=>[(3,zp_ b1 0),(6,.bool false),(7,zp_ b2 0),(9,zp_ b5 0),(13,.int .i64 (i:Int)),(16,.int .i64 (y.1:Int))]) (fun y=>((b6,.cells #[.slice zad (List.length Z) zcap] 37 (0,0))::((b5,.cells #[.slice yad (List.length Y) ycap] 37 (0,0))::((b2,.cells #[.slice xad (List.length X) xcap] 37 (0,0))::((b1,.cells #[.slice lad (List.length ls) lcap] 37 (0,0))::[]))))) (fun y=>[aR_ zad Z,ac_ zad (List.flatMap Ax.cells Z),aR_ yad Y,ac_ yad (List.flatMap Ax.cells Y),aR_ xad X,ac_ xad (List.flatMap Ax.cells X),aR_ lad ls,ac_ sd0 (List.flatMap aJ_ S),bn_]) (fun y=>List.length X - y.1) ⟨(0:Nat),by simp⟩ zl zp zh ?_
        rintro ⟨j,hi_j⟩
        dsimp only at hi_j ⊢
        refine Zi 7 (fun hr13=>?_) fun hr13=>?_
        ·refine Zz 11 ?_
         exact E_ hG_ () rfl e_ zt
        obtain⟨hlx1,x1,hx1,hmx1⟩:=zge (show j<List.length X by omega)
        refine Zz 9 ?_
        refine Q_ 6 [0,1,2,3,4,5] zk zs (Zz 4 ?_)
        refine P_ rfl (C_ s_ f_ rfl rfl (fun v _ h=>q_ (n:=16) Ax.cells_len (by decide) (by exact h.2.2.2.2.2.1) hx1) (by omega) (by first|omega|(simp;done))) rfl ?_
        refine P_ rfl (L_ (ad:=xad) (us:=Ax.cells x1) K_ f_ rfl zf (Ax.cells_len _) (o_ Ax.cells_len hx1)) rfl (ba_ (p_ 6 rfl zk (d_ (mG_ ls lad lcap hok (fun x hx=>⟨by have:=(hzL x hx).1;omega,by have:=(hzL x hx).2;omega⟩) (by omega) x1 (hokX x1 hmx1)) rfl e_ (fun v _ h=>by exact⟨h.2.2.2.2.2.2.1,(h.2.2.2.2.1.2 x1 hmx1),h.2.2.2.2.2.2.2.2.1,trivial⟩) rfl fun⟨⟨ix,ok2⟩,hfi⟩=>?_)))
        dsimp only
        try dsimp only at hfi
        refine Zz 3 ?_
        refine Q_ 0 [7,8,9,10,11] zk zs (Zz 11 ?_)
        refine c_ (aG_ rfl) rfl (Zz 2 ?_)
        cases ok2
        ·exact absurd (hfi.2 (hXf x1 hmx1)) (by simp)
        refine Zz 9 ?_
        exact z_ ⟨j+1,hlx1⟩ (by dsimp only;omega) zl zp zh
       have hly1:i<List.length Y:=by omega
       obtain⟨y1,hy1⟩:∃ e0,Y[i]? = some e0:=⟨_,List.getElem?_eq_getElem hly1⟩
       have hmy1:y1∈Y:=List.mem_of_getElem? hy1
       refine Zz 9 ?_
       refine Q_ 6 [0,1,2,3,4,5] zk zs (Zz 4 ?_)
       refine P_ rfl (C_ s_ f_ rfl rfl (fun v _ h=>q_ (n:=16) Ax.cells_len (by decide) (by exact h.2.2.2.1) hy1) (by omega) (by first|omega|(simp;done))) rfl ?_
       refine P_ rfl (L_ (ad:=yad) (us:=Ax.cells y1) K_ f_ rfl zf (Ax.cells_len _) (o_ Ax.cells_len hy1)) rfl (ba_ (p_ 6 rfl zk (d_ (mG_ X xad xcap hokX (fun x hx=>⟨by have:=(hzX x hx).1;omega,by have:=(hzX x hx).2;omega⟩) (by omega) y1 (hok y1 (hsubY y1 hmy1))) rfl e_ (fun v _ h=>by exact⟨h.2.2.2.2.1,(h.2.2.1.2 y1 hmy1),h.2.2.2.2.2.2.2.2.1,trivial⟩) rfl fun⟨⟨ix,ok1⟩,hfi⟩=>?_)))
       dsimp only
       try dsimp only at hfi
       refine Zz 3 ?_
       refine Q_ 0 [7,8,9,10,11] zk zs (Zz 11 ?_)
       refine c_ (aG_ rfl) rfl (Zz 2 ?_)
       cases ok1
       ·exact absurd (hfi.2 (hYf y1 hmy1)) (by simp)
       refine Zz 9 ?_
       exact z_ ⟨i+1,hly1⟩ (by dsimp only;omega) zl zp zh
      exact absurd (he0.uniq hbX) hr11
     exact absurd hg0 hr10
    exact absurd hf0 hr9
   refine Zz 8 ?_
   refine y_ (ay_ rfl rfl) rfl fun r14 hr14=>Zz 4 ?_
   exact E_ hG_ () (m_ rfl (by have hX0:=ex_er hxX (by simpa using hr3);subst hX0;rw[← hr14];rfl)) e_ zt
  refine Zz 10 ?_
  exact E_ hG_ () rfl e_ zt
 refine Zz 16 ?_
 exact E_ hG_ () rfl e_ zt
end Go.Proofs.YtamklbgaipakfaaGreatDoor
namespace Go.Proofs.YtamklbgaipakfaaGreatDoor
open Go Go.Sx Go.Proofs
attribute [local irreducible] Code.wp wpList wpAnyH
open Go.Vs Go.ChangeShapes Go.WideShapes Go.ChangeAt Go.RowKit
theorem own:ownKnob Tryz.prog.godebug=none:=by kernel_rfl
def gD_ : List (String × DataW Unit) := [("math/bits.deBruijn32tab", Rows.laid_math_bits_deBruijn32tab), ("math/bits.deBruijn64tab", Rows.laid_math_bits_deBruijn64tab), ("internal/strconv.uint64pow10", Rows.laid_internal_strconv_uint64pow10), ("veilstone/terms.needs", Rows.laid_veilstone_terms_needs), ("veilstone/terms.uses", Rows.laid_veilstone_terms_uses)]
theorem uC_:Kids Tryz.prog (·<Tryz.prog.types.size):=kids_rows (by kernel_rfl) (by kernel_rfl)
theorem full:∀ t e,t<Tryz.prog.types.size→Tryz.prog.underlying t=some (.slice e)→0<Tryz.prog.cellsOf e:=slices_full_of _ (by kernel_rfl)
theorem mm_:Tryz.prog.types.size=376:=by kernel_rfl
theorem tysX:Tys Tryz.prog 3 4 9 23 46 44 48 22 58 54 where
  i:=w_
  b:=Tryz.underlying4
  s:=cm_
  ss:=Tryz.underlying23
  c:=⟨_,Tryz.underlying46,rfl⟩
  cs:=Tryz.underlying44
  a:=⟨_,Tryz.underlying48,rfl⟩
  axs:=Tryz.underlying22
  p:=⟨_,gq_,rfl⟩
  ps:=Tryz.underlying54
  ci:=by kernel_rfl
  cb:=by kernel_rfl
  cs1:=by kernel_rfl
  css:=by kernel_rfl
  cc:=by kernel_rfl
  ccs:=by kernel_rfl
  ca:=by kernel_rfl
  cp:=by kernel_rfl
  bs:=by kernel_rfl
  bc:=by kernel_rfl
  ba:=by kernel_rfl
  bp:=by kernel_rfl
theorem jk_ {W:World} (h:laidMetH Tryz.prog gD_ W):∃ T fz,W.heap[3]? = some (.cells (eL_ (H:=Unit) Rows.laid_veilstone_terms_needs).toArray T fz):=by
  rw[MakeChecks.laidMetH_plain _ _ _ zk]at h
  exact jR_ uC_ (name := "veilstone/terms.needs") h (by simp [gD_]) (g := 3) (t := 288) zk zk (by rw [mm_]; decide) (m := 4) zk
theorem jS_ {W:World} (h:laidMetH Tryz.prog gD_ W):∃ T fz,W.heap[0]? = some (.cells (eL_ (H:=Unit) Rows.laid_veilstone_terms_uses).toArray T fz):=by
  rw[MakeChecks.laidMetH_plain _ _ _ zk]at h
  exact jR_ uC_ (name := "veilstone/terms.uses") h (by simp [gD_]) (g := 0) (t := 151) zk zk (by rw [mm_]; decide) (m := 4) zk
theorem fv_ {W:World} (h:laidMetH Tryz.prog gD_ W):∃ T fz,W.heap[6]? = some (.cells (eL_ (H:=Unit) Rows.laid_internal_strconv_uint64pow10).toArray T fz):=by
  rw[MakeChecks.laidMetH_plain _ _ _ zk]at h
  exact jR_ uC_ (name := "internal/strconv.uint64pow10") h (by simp [gD_]) (g := 6) (t := 359) zk zk (by rw [mm_]; decide) (m := 4) zk
theorem pS_ {W:World} {g:Nat} {l:List Value} {d:List Value} (h:∃ T fz,W.heap[g]? = some (.cells l.toArray T fz)) (e:l=d):bA_ (vw W) (some ⟨g,0,none⟩) d:=by
  obtain⟨T,fz,h⟩:=h
  subst e
  exact .inr ⟨g,0,_,T,fz,rfl,(Array.getElem?_eq_some_iff.1 h).1,h,fun j x hj=>by rw[Nat.zero_add];simpa using hj⟩
theorem uc_ {W:World} (h:laidMetH Tryz.prog gD_ W):bn_.p (vw W):=by
  refine⟨pS_ (jk_ h) zk,pS_ (jS_ h) zk,trivial,?_⟩
  obtain⟨T,fz,h2⟩:=fv_ h
  refine⟨trivial,(Array.getElem?_eq_some_iff.1 h2).1,T,fz,?_⟩
  rw[show (Lib.pow10Tab.map fun z=>Value.int .u64 z)=eL_ (H:=Unit) Rows.laid_internal_strconv_uint64pow10 by kernel_rfl]
  exact h2
end Go.Proofs.YtamklbgaipakfaaGreatDoor
namespace Go.Proofs.YtamklbgaipakfaaGreatDoor
open Go Go.Sx Go.Proofs
attribute [local irreducible] Code.wp wpList wpAnyH
open Go.Vs Go.ChangeShapes Go.WideShapes Go.ChangeAt Go.RowKit
structure TysB (P:Program) (tAs tQ:TypeId):Prop where
  q:∃ fs,P.underlying tQ=some (.struct fs)∧fs.toList.map (fun f=>(f.type,f.offset))=[(tAs,0)]
  cas:P.cellsOf tAs=1
  cq:P.cellsOf tQ=1
section
variable {H:Type} {enc:TypeId×Value→H} {P:Program} {W:World} {tI tB tS tSs tC tCs tA tAs tP tPs tQ:TypeId} (X:Tys P tI tB tS tSs tC tCs tA tAs tP tPs) (Y:TysB P tAs tQ) {base:Nat} {v:Value} {d:DataW H} {ps:List MemPlace}
include X Y
theorem tL_ (hval:Value.okWide P W .any base tQ v) (h:DataW.Trod enc P W 0 (fun _=>true) true tQ v d ps) (hw:wok (d.weights P tQ)) :
    ∃ (l:List Ax) (ad:Option Addr) (cap:Nat),v=.agg #[.slice ad l.length cap]∧(aR_ ad l).p (vw W)∧(∀ y∈l,y.ok)∧l.length≤cap∧cap≤2199023255488:=by
  obtain⟨fs,hu,hL⟩:=Y.q
  unfold Value.okWide at hval
  rw[hu]at hval
  obtain⟨cs,rfl,_⟩:=hval
  obtain⟨n,hn⟩:=h
  simp only[Value.cells]at hn
  obtain⟨xs,m,hn2,hx,hl,hlen,hf,hwe⟩:=fields_of hu hL hn
  rw[hwe]at hw
  match xs,hlen with
  | [x0],_ =>
  simp only[List.map_cons,List.map_nil,DataW.weightsEach,et_]at hw
  have f0:=hf 0 _ rfl
  simp only[List.getElem?_cons_zero,Y.cas]at f0
  obtain⟨l,ad,cap,e0,h1⟩:=axs_of X f0 hw.1
  rw[Y.cq]at hl
  refine⟨l,ad,cap,?_,h1⟩
  rw[List.drop_zero,List.take_of_length_le (by omega)]at e0
  rw[← e0]
end
theorem tysB:TysB Tryz.prog 22 37 where
  q:=⟨_,Tryz.underlying37,rfl⟩
  cas:=by kernel_rfl
  cq:=by kernel_rfl
end Go.Proofs.YtamklbgaipakfaaGreatDoor
