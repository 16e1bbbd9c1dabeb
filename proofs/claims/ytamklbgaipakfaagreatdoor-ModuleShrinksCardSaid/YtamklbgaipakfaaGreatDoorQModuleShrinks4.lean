/-
  Part of the proof of the law ModuleShrinks over this seat: the small logic, the data, the contracts of functions (no condition).
-/
import Derived.Test.YtamklbgaipakfaaGreatDoorQModuleShrinks3
import Derived.Test.YtamklbgaipakfaaGreatDoorQModuleShrinks2
set_option linter.unusedVariables false
set_option linter.unusedSimpArgs false
set_option linter.unusedSectionVars false
set_option maxHeartbeats 1000000
namespace Go.Proofs.YtamklbgaipakfaaGreatDoor
open Go Go.Sx Go.Proofs
attribute [local irreducible] Code.wp wpList wpAnyH
open Go.Vs
theorem kS_ (c:Con) (hok:c.ok):Tri Tryz.prog 205 #[c.val] [] [bn_] (fun _:Unit=>.int .i64 c.fieldErr) (fun _=>[]) (fun _=>[]):=by
 obtain⟨k,nm,lo,hi,ad,cap,ps⟩:=c
 have hlen:=Con.ok_len hok
 simp only[Con.parts,Con.cap]at hlen
 refine j_ Tryz.func205 rfl rfl Tryz.ntmps205 rfl fun v0=>?_
 refine Zz 2 ?_
 refine N_ rfl rfl fun b1=>Zz 8 ?_
 refine y_ (dN_ rfl rfl) rfl fun r1 hr1=>Zz 1 ?_
 refine aN_ 4 ((decide (k<1))||(decide (7<k))) (fun r=>[(0,.agg #[.int .i64 k,str nm,.int .i64 lo,.int .i64 hi,.slice ad ps.length cap]),(1,zp_ b1 0),(2,.int .i64 0),(11,.bool r)]) ?_ fun r2 hr2=>?_
 ·cases r1
  ·have qr2:=hr1
   replace hr1:=zdf hr1
   try dsimp only[Con.kind,Con.parts,Con.name,Con.lo,Con.hi,Con.cap,Con.ad]at hr1
   refine Zz 5 ?_
   refine y_ (eb_ rfl rfl) rfl fun r3 hr3=>Zz 3 ?_
   exact met ⟨rfl,rfl,rfl,(m_ rfl (jof qr2 hr3)),trivial⟩
  have qr2:=hr1
  replace hr1:=zdt hr1
  try dsimp only[Con.kind,Con.parts,Con.name,Con.lo,Con.hi,Con.cap,Con.ad]at hr1
  refine Zz 6 ?_
  exact met ⟨rfl,rfl,rfl,(m_ rfl (jot qr2)),trivial⟩
 refine Zz 2 ?_
 cases r2
 ·simp at hr2
  try dsimp only[Con.kind,Con.parts,Con.name,Con.lo,Con.hi,Con.cap,Con.ad]at hr2
  obtain⟨x,hx⟩:∃ x,dL_[k.toNat]? = some x:=⟨_,List.getElem?_eq_getElem (show k.toNat<8 by omega)⟩
  have hnd:nd k=x:=by simp[nd,hx]
  obtain⟨x1,x2,x3,xb⟩:=x
  refine Zz 7 ?_
  refine c_ (er_ Tryz.runUnderlying288 Tryz.sizeOf287 rfl rfl (by show (0:Int)≤k;omega) (by show k<(8:Int);omega)) rfl ?_
  refine c_ (L_ (ad:=some ⟨3,0,none⟩) (k:=k.toNat*4) (us:=qa_ (x1,x2,x3,xb)) Tryz.isAgg287 Tryz.sizeOf287 rfl (fun v _ h=>h.1.1) (iD_ _) (fun j y hj=>by rw[iL_ qa_ 4 iD_ dL_ k.toNat j _ hx (by have:=(List.getElem?_eq_some_iff.1 hj).1;rwa [iD_]at this)];exact hj)) rfl ?_
  refine G_ Tryz.zeroValue287 rfl fun b2=>n_ 0 Tryz.sizeOf287 rfl rfl rfl rfl rfl rfl (Zz 10 ?_)
  refine y_ (dN_ rfl rfl) rfl fun r4 hr4=>Zz 1 ?_
  refine aN_ 7 ((decide ((ps.length:Int)<x2))||(decide (x3<(ps.length:Int)))) (fun r=>[(0,.agg #[.int .i64 k,str nm,.int .i64 lo,.int .i64 hi,.slice ad ps.length cap]),(1,zp_ b1 0),(2,.int .i64 0),(11,.bool false),(12,zp_ b1 0),(13,.int .i64 k),(14,.pointer (some (rad (some ⟨3,0,none⟩) (k.toNat*4)))),(15,.agg #[.int .i64 x1,.int .i64 x2,.int .i64 x3,.bool xb]),(3,zp_ b2 0),(29,.bool r)]) ?_ fun r5 hr5=>?_
  ·cases r4
   ·have qr5:=hr4
    replace hr4:=zdf hr4
    try dsimp only[Con.kind,Con.parts,Con.name,Con.lo,Con.hi,Con.cap,Con.ad]at hr4
    refine Zz 11 ?_
    refine y_ (eb_ rfl rfl) rfl fun r6 hr6=>Zz 3 ?_
    exact met ⟨rfl,rfl,rfl,rfl,rfl,rfl,rfl,rfl,rfl,(m_ rfl (jof qr5 hr6)),trivial⟩
   have qr5:=hr4
   replace hr4:=zdt hr4
   try dsimp only[Con.kind,Con.parts,Con.name,Con.lo,Con.hi,Con.cap,Con.ad]at hr4
   refine Zz 9 ?_
   exact met ⟨rfl,rfl,rfl,rfl,rfl,rfl,rfl,rfl,rfl,(m_ rfl (jot qr5)),trivial⟩
  refine Zz 1 ?_
  refine aN_ 9 ((((decide ((ps.length:Int)<x2))||(decide (x3<(ps.length:Int)))))||(((x1==0)&&(nm != [])))) (fun r=>[(0,.agg #[.int .i64 k,str nm,.int .i64 lo,.int .i64 hi,.slice ad ps.length cap]),(1,zp_ b1 0),(2,.int .i64 0),(11,.bool false),(12,zp_ b1 0),(13,.int .i64 k),(14,.pointer (some (rad (some ⟨3,0,none⟩) (k.toNat*4)))),(15,.agg #[.int .i64 x1,.int .i64 x2,.int .i64 x3,.bool xb]),(3,zp_ b2 0),(39,.bool r)]) ?_ fun r7 hr7=>?_
  ·cases r5
   ·have qr7:=hr5
    simp at hr5
    try dsimp only[Con.kind,Con.parts,Con.name,Con.lo,Con.hi,Con.cap,Con.ad]at hr5
    refine Zz 5 ?_
    refine y_ (ay_ rfl rfl) rfl fun r8 hr8=>Zz 2 ?_
    refine aN_ 4 ((x1==0)&&(nm != [])) (fun r=>[(0,.agg #[.int .i64 k,str nm,.int .i64 lo,.int .i64 hi,.slice ad ps.length cap]),(1,zp_ b1 0),(2,.int .i64 0),(11,.bool false),(12,zp_ b1 0),(13,.int .i64 k),(14,.pointer (some (rad (some ⟨3,0,none⟩) (k.toNat*4)))),(15,.agg #[.int .i64 x1,.int .i64 x2,.int .i64 x3,.bool xb]),(3,zp_ b2 0),(30,.bool false),(38,.bool r)]) ?_ fun r9 hr9=>?_
    ·cases r8
     ·have qr9:=hr8
      replace hr8:=znb hr8
      try dsimp only[Con.kind,Con.parts,Con.name,Con.lo,Con.hi,Con.cap,Con.ad]at hr8
      refine Zz 7 ?_
      exact met ⟨rfl,rfl,rfl,rfl,rfl,rfl,rfl,rfl,rfl,rfl,(m_ rfl (jaf qr9)),trivial⟩
     have qr9:=hr8
     replace hr8:=zeb hr8
     try dsimp only[Con.kind,Con.parts,Con.name,Con.lo,Con.hi,Con.cap,Con.ad]at hr8
     refine Zz 5 ?_
     refine y_ (ea_ rfl rfl) rfl fun r10 hr10=>Zz 4 ?_
     exact met ⟨rfl,rfl,rfl,rfl,rfl,rfl,rfl,rfl,rfl,rfl,(m_ rfl (jat qr9 hr10)),trivial⟩
    refine Zz 3 ?_
    exact met ⟨rfl,rfl,rfl,rfl,rfl,rfl,rfl,rfl,rfl,(m_ rfl (jof qr7 hr9)),trivial⟩
   have qr7:=hr5
   simp at hr5
   try dsimp only[Con.kind,Con.parts,Con.name,Con.lo,Con.hi,Con.cap,Con.ad]at hr5
   refine Zz 11 ?_
   exact met ⟨rfl,rfl,rfl,rfl,rfl,rfl,rfl,rfl,rfl,(m_ rfl (jot qr7)),trivial⟩
  refine Zz 2 ?_
  cases r7
  ·simp at hr7
   try dsimp only[Con.kind,Con.parts,Con.name,Con.lo,Con.hi,Con.cap,Con.ad]at hr7
   refine Zz 10 ?_
   cases xb
   ·try dsimp only[Con.kind,Con.parts,Con.name,Con.lo,Con.hi,Con.cap,Con.ad]at hxb
    refine Zz 5 ?_
    refine y_ (bR_ rfl rfl) rfl fun r11 hr11=>Zz 1 ?_
    refine aN_ 4 ((lo != 0)||(hi != 0)) (fun r=>[(0,.agg #[.int .i64 k,str nm,.int .i64 lo,.int .i64 hi,.slice ad ps.length cap]),(1,zp_ b1 0),(2,.int .i64 0),(11,.bool false),(12,zp_ b1 0),(13,.int .i64 k),(14,.pointer (some (rad (some ⟨3,0,none⟩) (k.toNat*4)))),(15,.agg #[.int .i64 x1,.int .i64 x2,.int .i64 x3,.bool false]),(3,zp_ b2 0),(39,.bool false),(40,zp_ b2 3),(41,.bool false),(64,.bool r)]) ?_ fun r12 hr12=>?_
    ·cases r11
     ·have qr12:=hr11
      replace hr11:=dZ_ hr11
      try dsimp only[Con.kind,Con.parts,Con.name,Con.lo,Con.hi,Con.cap,Con.ad]at hr11
      refine Zz 5 ?_
      refine y_ (bR_ rfl rfl) rfl fun r13 hr13=>Zz 3 ?_
      exact met ⟨rfl,rfl,rfl,rfl,rfl,rfl,rfl,rfl,rfl,rfl,rfl,rfl,(m_ rfl (jof qr12 hr13)),trivial⟩
     have qr12:=hr11
     replace hr11:=dV_ hr11
     try dsimp only[Con.kind,Con.parts,Con.name,Con.lo,Con.hi,Con.cap,Con.ad]at hr11
     refine Zz 6 ?_
     exact met ⟨rfl,rfl,rfl,rfl,rfl,rfl,rfl,rfl,rfl,rfl,rfl,rfl,(m_ rfl (jot qr12)),trivial⟩
    refine Zz 2 ?_
    cases r12
    ·simp at hr12
     try dsimp only[Con.kind,Con.parts,Con.name,Con.lo,Con.hi,Con.cap,Con.ad]at hr12
     refine Zz 8 ?_
     refine y_ (ay_ rfl rfl) rfl fun r14 hr14=>Zz 1 ?_
     refine aN_ 4 ((x1==0)||(bk_ nm)) (fun r=>[(0,.agg #[.int .i64 k,str nm,.int .i64 lo,.int .i64 hi,.slice ad ps.length cap]),(1,zp_ b1 0),(2,.int .i64 0),(11,.bool false),(12,zp_ b1 0),(13,.int .i64 k),(14,.pointer (some (rad (some ⟨3,0,none⟩) (k.toNat*4)))),(15,.agg #[.int .i64 x1,.int .i64 x2,.int .i64 x3,.bool false]),(3,zp_ b2 0),(39,.bool false),(40,zp_ b2 3),(41,.bool false),(64,.bool false),(72,.bool r)]) ?_ fun r15 hr15=>?_
     ·cases r14
      ·have qr15:=hr14
       replace hr14:=znb hr14
       try dsimp only[Con.kind,Con.parts,Con.name,Con.lo,Con.hi,Con.cap,Con.ad]at hr14
       refine Zz 5 ?_
       refine af_ (fE_ nm) rfl (.refl _) zt rfl fun r16 hr16=>Zz 3 ?_
       exact met ⟨rfl,rfl,rfl,rfl,rfl,rfl,rfl,rfl,rfl,rfl,rfl,rfl,rfl,(m_ rfl (jof qr15 hr16)),trivial⟩
      have qr15:=hr14
      replace hr14:=zeb hr14
      try dsimp only[Con.kind,Con.parts,Con.name,Con.lo,Con.hi,Con.cap,Con.ad]at hr14
      refine Zz 6 ?_
      exact met ⟨rfl,rfl,rfl,rfl,rfl,rfl,rfl,rfl,rfl,rfl,rfl,rfl,rfl,(m_ rfl (jot qr15)),trivial⟩
     refine Zz 1 ?_
     refine aN_ 9 ((((x1==0)||(bk_ nm)))||(((x1==2)&&(cx_ nm)))) (fun r=>[(0,.agg #[.int .i64 k,str nm,.int .i64 lo,.int .i64 hi,.slice ad ps.length cap]),(1,zp_ b1 0),(2,.int .i64 0),(11,.bool false),(12,zp_ b1 0),(13,.int .i64 k),(14,.pointer (some (rad (some ⟨3,0,none⟩) (k.toNat*4)))),(15,.agg #[.int .i64 x1,.int .i64 x2,.int .i64 x3,.bool false]),(3,zp_ b2 0),(39,.bool false),(40,zp_ b2 3),(41,.bool false),(64,.bool false),(82,.bool r)]) ?_ fun r17 hr17=>?_
     ·cases r15
      ·have qr17:=hr15
       simp at hr15
       try dsimp only[Con.kind,Con.parts,Con.name,Con.lo,Con.hi,Con.cap,Con.ad]at hr15
       refine Zz 5 ?_
       refine y_ (ay_ rfl rfl) rfl fun r18 hr18=>Zz 2 ?_
       refine aN_ 4 ((x1==2)&&(cx_ nm)) (fun r=>[(0,.agg #[.int .i64 k,str nm,.int .i64 lo,.int .i64 hi,.slice ad ps.length cap]),(1,zp_ b1 0),(2,.int .i64 0),(11,.bool false),(12,zp_ b1 0),(13,.int .i64 k),(14,.pointer (some (rad (some ⟨3,0,none⟩) (k.toNat*4)))),(15,.agg #[.int .i64 x1,.int .i64 x2,.int .i64 x3,.bool false]),(3,zp_ b2 0),(39,.bool false),(40,zp_ b2 3),(41,.bool false),(64,.bool false),(73,.bool false),(81,.bool r)]) ?_ fun r19 hr19=>?_
       ·cases r18
        ·have qr19:=hr18
         replace hr18:=znb hr18
         try dsimp only[Con.kind,Con.parts,Con.name,Con.lo,Con.hi,Con.cap,Con.ad]at hr18
         refine Zz 7 ?_
         exact met ⟨rfl,rfl,rfl,rfl,rfl,rfl,rfl,rfl,rfl,rfl,rfl,rfl,rfl,rfl,(m_ rfl (jaf qr19)),trivial⟩
        have qr19:=hr18
        replace hr18:=zeb hr18
        try dsimp only[Con.kind,Con.parts,Con.name,Con.lo,Con.hi,Con.cap,Con.ad]at hr18
        refine Zz 5 ?_
        refine af_ (fX_ nm (Con.ok_name hok)) rfl (.refl _) zt rfl fun r20 hr20=>Zz 4 ?_
        exact met ⟨rfl,rfl,rfl,rfl,rfl,rfl,rfl,rfl,rfl,rfl,rfl,rfl,rfl,rfl,(m_ rfl (jat qr19 hr20)),trivial⟩
       refine Zz 3 ?_
       exact met ⟨rfl,rfl,rfl,rfl,rfl,rfl,rfl,rfl,rfl,rfl,rfl,rfl,rfl,(m_ rfl (jof qr17 hr19)),trivial⟩
      have qr17:=hr15
      simp at hr15
      try dsimp only[Con.kind,Con.parts,Con.name,Con.lo,Con.hi,Con.cap,Con.ad]at hr15
      refine Zz 11 ?_
      exact met ⟨rfl,rfl,rfl,rfl,rfl,rfl,rfl,rfl,rfl,rfl,rfl,rfl,rfl,(m_ rfl (jot qr17)),trivial⟩
     refine Zz 2 ?_
     cases r17
     ·simp at hr17
      try dsimp only[Con.kind,Con.parts,Con.name,Con.lo,Con.hi,Con.cap,Con.ad]at hr17
      refine Zz 9 ?_
      exact E_ eH_ () (O_ rfl (by unfold Con.fieldErr;simp only[Con.kind,Con.parts,Con.name,Con.lo,Con.hi];simp only[hnd];repeat (first|rfl|exact (if_pos (by omega)).symm|(rw[if_pos (by first|omega|(simp_all;done)|(simp_all;omega)|grind)];first|done|rfl)|(rw[if_neg (by first|omega|(simp_all;done)|(simp_all;omega)|grind)])))) (.refl _) zt
     simp at hr17
     try dsimp only[Con.kind,Con.parts,Con.name,Con.lo,Con.hi,Con.cap,Con.ad]at hr17
     refine Zz 7 ?_
     exact E_ eH_ () (O_ rfl (by unfold Con.fieldErr;simp only[Con.kind,Con.parts,Con.name,Con.lo,Con.hi];simp only[hnd];repeat (first|rfl|exact (if_pos (by omega)).symm|(rw[if_pos (by first|omega|(simp_all;done)|(simp_all;omega)|grind)];first|done|rfl)|(rw[if_neg (by first|omega|(simp_all;done)|(simp_all;omega)|grind)])))) (.refl _) zt
    simp at hr12
    try dsimp only[Con.kind,Con.parts,Con.name,Con.lo,Con.hi,Con.cap,Con.ad]at hr12
    refine Zz 7 ?_
    exact E_ eH_ () (O_ rfl (by unfold Con.fieldErr;simp only[Con.kind,Con.parts,Con.name,Con.lo,Con.hi];simp only[hnd];repeat (first|rfl|exact (if_pos (by omega)).symm|(rw[if_pos (by first|omega|(simp_all;done)|(simp_all;omega)|grind)];first|done|rfl)|(rw[if_neg (by first|omega|(simp_all;done)|(simp_all;omega)|grind)])))) (.refl _) zt
   try dsimp only[Con.kind,Con.parts,Con.name,Con.lo,Con.hi,Con.cap,Con.ad]at hxb
   refine Zz 5 ?_
   refine y_ (dN_ rfl rfl) rfl fun r21 hr21=>Zz 1 ?_
   refine aN_ 6 ((decide (lo<(-1099511627776)))||(decide (hi<lo))) (fun r=>[(0,.agg #[.int .i64 k,str nm,.int .i64 lo,.int .i64 hi,.slice ad ps.length cap]),(1,zp_ b1 0),(2,.int .i64 0),(11,.bool false),(12,zp_ b1 0),(13,.int .i64 k),(14,.pointer (some (rad (some ⟨3,0,none⟩) (k.toNat*4)))),(15,.agg #[.int .i64 x1,.int .i64 x2,.int .i64 x3,.bool true]),(3,zp_ b2 0),(39,.bool false),(40,zp_ b2 3),(41,.bool true),(51,.bool r)]) ?_ fun r22 hr22=>?_
   ·cases r21
    ·have qr22:=hr21
     replace hr21:=zdf hr21
     try dsimp only[Con.kind,Con.parts,Con.name,Con.lo,Con.hi,Con.cap,Con.ad]at hr21
     refine Zz 9 ?_
     refine y_ (eb_ rfl rfl) rfl fun r23 hr23=>Zz 3 ?_
     exact met ⟨rfl,rfl,rfl,rfl,rfl,rfl,rfl,rfl,rfl,rfl,rfl,rfl,(m_ rfl (jof qr22 hr23)),trivial⟩
    have qr22:=hr21
    replace hr21:=zdt hr21
    try dsimp only[Con.kind,Con.parts,Con.name,Con.lo,Con.hi,Con.cap,Con.ad]at hr21
    refine Zz 8 ?_
    exact met ⟨rfl,rfl,rfl,rfl,rfl,rfl,rfl,rfl,rfl,rfl,rfl,rfl,(m_ rfl (jot qr22)),trivial⟩
   refine Zz 1 ?_
   refine aN_ 4 ((((decide (lo<(-1099511627776)))||(decide (hi<lo))))||(decide (1099511627776<hi))) (fun r=>[(0,.agg #[.int .i64 k,str nm,.int .i64 lo,.int .i64 hi,.slice ad ps.length cap]),(1,zp_ b1 0),(2,.int .i64 0),(11,.bool false),(12,zp_ b1 0),(13,.int .i64 k),(14,.pointer (some (rad (some ⟨3,0,none⟩) (k.toNat*4)))),(15,.agg #[.int .i64 x1,.int .i64 x2,.int .i64 x3,.bool true]),(3,zp_ b2 0),(39,.bool false),(40,zp_ b2 3),(41,.bool true),(56,.bool r)]) ?_ fun r24 hr24=>?_
   ·cases r22
    ·have qr24:=hr22
     simp at hr22
     try dsimp only[Con.kind,Con.parts,Con.name,Con.lo,Con.hi,Con.cap,Con.ad]at hr22
     refine Zz 5 ?_
     refine y_ (eb_ rfl rfl) rfl fun r25 hr25=>Zz 3 ?_
     exact met ⟨rfl,rfl,rfl,rfl,rfl,rfl,rfl,rfl,rfl,rfl,rfl,rfl,(m_ rfl (jof qr24 hr25)),trivial⟩
    have qr24:=hr22
    simp at hr22
    try dsimp only[Con.kind,Con.parts,Con.name,Con.lo,Con.hi,Con.cap,Con.ad]at hr22
    refine Zz 6 ?_
    exact met ⟨rfl,rfl,rfl,rfl,rfl,rfl,rfl,rfl,rfl,rfl,rfl,rfl,(m_ rfl (jot qr24)),trivial⟩
   refine Zz 2 ?_
   cases r24
   ·simp at hr24
    try dsimp only[Con.kind,Con.parts,Con.name,Con.lo,Con.hi,Con.cap,Con.ad]at hr24
    refine Zz 8 ?_
    refine y_ (ay_ rfl rfl) rfl fun r26 hr26=>Zz 1 ?_
    refine aN_ 4 ((x1==0)||(bk_ nm)) (fun r=>[(0,.agg #[.int .i64 k,str nm,.int .i64 lo,.int .i64 hi,.slice ad ps.length cap]),(1,zp_ b1 0),(2,.int .i64 0),(11,.bool false),(12,zp_ b1 0),(13,.int .i64 k),(14,.pointer (some (rad (some ⟨3,0,none⟩) (k.toNat*4)))),(15,.agg #[.int .i64 x1,.int .i64 x2,.int .i64 x3,.bool true]),(3,zp_ b2 0),(39,.bool false),(40,zp_ b2 3),(41,.bool true),(56,.bool false),(72,.bool r)]) ?_ fun r27 hr27=>?_
    ·cases r26
     ·have qr27:=hr26
      replace hr26:=znb hr26
      try dsimp only[Con.kind,Con.parts,Con.name,Con.lo,Con.hi,Con.cap,Con.ad]at hr26
      refine Zz 5 ?_
      refine af_ (fE_ nm) rfl (.refl _) zt rfl fun r28 hr28=>Zz 3 ?_
      exact met ⟨rfl,rfl,rfl,rfl,rfl,rfl,rfl,rfl,rfl,rfl,rfl,rfl,rfl,(m_ rfl (jof qr27 hr28)),trivial⟩
     have qr27:=hr26
     replace hr26:=zeb hr26
     try dsimp only[Con.kind,Con.parts,Con.name,Con.lo,Con.hi,Con.cap,Con.ad]at hr26
     refine Zz 6 ?_
     exact met ⟨rfl,rfl,rfl,rfl,rfl,rfl,rfl,rfl,rfl,rfl,rfl,rfl,rfl,(m_ rfl (jot qr27)),trivial⟩
    refine Zz 1 ?_
    refine aN_ 9 ((((x1==0)||(bk_ nm)))||(((x1==2)&&(cx_ nm)))) (fun r=>[(0,.agg #[.int .i64 k,str nm,.int .i64 lo,.int .i64 hi,.slice ad ps.length cap]),(1,zp_ b1 0),(2,.int .i64 0),(11,.bool false),(12,zp_ b1 0),(13,.int .i64 k),(14,.pointer (some (rad (some ⟨3,0,none⟩) (k.toNat*4)))),(15,.agg #[.int .i64 x1,.int .i64 x2,.int .i64 x3,.bool true]),(3,zp_ b2 0),(39,.bool false),(40,zp_ b2 3),(41,.bool true),(56,.bool false),(82,.bool r)]) ?_ fun r29 hr29=>?_
    ·cases r27
     ·have qr29:=hr27
      simp at hr27
      try dsimp only[Con.kind,Con.parts,Con.name,Con.lo,Con.hi,Con.cap,Con.ad]at hr27
      refine Zz 5 ?_
      refine y_ (ay_ rfl rfl) rfl fun r30 hr30=>Zz 2 ?_
      refine aN_ 4 ((x1==2)&&(cx_ nm)) (fun r=>[(0,.agg #[.int .i64 k,str nm,.int .i64 lo,.int .i64 hi,.slice ad ps.length cap]),(1,zp_ b1 0),(2,.int .i64 0),(11,.bool false),(12,zp_ b1 0),(13,.int .i64 k),(14,.pointer (some (rad (some ⟨3,0,none⟩) (k.toNat*4)))),(15,.agg #[.int .i64 x1,.int .i64 x2,.int .i64 x3,.bool true]),(3,zp_ b2 0),(39,.bool false),(40,zp_ b2 3),(41,.bool true),(56,.bool false),(73,.bool false),(81,.bool r)]) ?_ fun r31 hr31=>?_
      ·cases r30
       ·have qr31:=hr30
        replace hr30:=znb hr30
        try dsimp only[Con.kind,Con.parts,Con.name,Con.lo,Con.hi,Con.cap,Con.ad]at hr30
        refine Zz 7 ?_
        exact met ⟨rfl,rfl,rfl,rfl,rfl,rfl,rfl,rfl,rfl,rfl,rfl,rfl,rfl,rfl,(m_ rfl (jaf qr31)),trivial⟩
       have qr31:=hr30
       replace hr30:=zeb hr30
       try dsimp only[Con.kind,Con.parts,Con.name,Con.lo,Con.hi,Con.cap,Con.ad]at hr30
       refine Zz 5 ?_
       refine af_ (fX_ nm (Con.ok_name hok)) rfl (.refl _) zt rfl fun r32 hr32=>Zz 4 ?_
       exact met ⟨rfl,rfl,rfl,rfl,rfl,rfl,rfl,rfl,rfl,rfl,rfl,rfl,rfl,rfl,(m_ rfl (jat qr31 hr32)),trivial⟩
      refine Zz 3 ?_
      exact met ⟨rfl,rfl,rfl,rfl,rfl,rfl,rfl,rfl,rfl,rfl,rfl,rfl,rfl,(m_ rfl (jof qr29 hr31)),trivial⟩
     have qr29:=hr27
     simp at hr27
     try dsimp only[Con.kind,Con.parts,Con.name,Con.lo,Con.hi,Con.cap,Con.ad]at hr27
     refine Zz 11 ?_
     exact met ⟨rfl,rfl,rfl,rfl,rfl,rfl,rfl,rfl,rfl,rfl,rfl,rfl,rfl,(m_ rfl (jot qr29)),trivial⟩
    refine Zz 2 ?_
    cases r29
    ·simp at hr29
     try dsimp only[Con.kind,Con.parts,Con.name,Con.lo,Con.hi,Con.cap,Con.ad]at hr29
     refine Zz 9 ?_
     exact E_ eH_ () (O_ rfl (by unfold Con.fieldErr;simp only[Con.kind,Con.parts,Con.name,Con.lo,Con.hi];simp only[hnd];repeat (first|rfl|exact (if_pos (by omega)).symm|(rw[if_pos (by first|omega|(simp_all;done)|(simp_all;omega)|grind)];first|done|rfl)|(rw[if_neg (by first|omega|(simp_all;done)|(simp_all;omega)|grind)])))) (.refl _) zt
    simp at hr29
    try dsimp only[Con.kind,Con.parts,Con.name,Con.lo,Con.hi,Con.cap,Con.ad]at hr29
    refine Zz 7 ?_
    exact E_ eH_ () (O_ rfl (by unfold Con.fieldErr;simp only[Con.kind,Con.parts,Con.name,Con.lo,Con.hi];simp only[hnd];repeat (first|rfl|exact (if_pos (by omega)).symm|(rw[if_pos (by first|omega|(simp_all;done)|(simp_all;omega)|grind)];first|done|rfl)|(rw[if_neg (by first|omega|(simp_all;done)|(simp_all;omega)|grind)])))) (.refl _) zt
   simp at hr24
   try dsimp only[Con.kind,Con.parts,Con.name,Con.lo,Con.hi,Con.cap,Con.ad]at hr24
   refine Zz 7 ?_
   exact E_ eH_ () (O_ rfl (by unfold Con.fieldErr;simp only[Con.kind,Con.parts,Con.name,Con.lo,Con.hi];simp only[hnd];repeat (first|rfl|exact (if_pos (by omega)).symm|(rw[if_pos (by first|omega|(simp_all;done)|(simp_all;omega)|grind)];first|done|rfl)|(rw[if_neg (by first|omega|(simp_all;done)|(simp_all;omega)|grind)])))) (.refl _) zt
  simp at hr7
  try dsimp only[Con.kind,Con.parts,Con.name,Con.lo,Con.hi,Con.cap,Con.ad]at hr7
  refine Zz 7 ?_
  exact E_ eH_ () (O_ rfl (by unfold Con.fieldErr;simp only[Con.kind,Con.parts,Con.name,Con.lo,Con.hi];simp only[hnd];repeat (first|rfl|exact (if_pos (by omega)).symm|(rw[if_pos (by first|omega|(simp_all;done)|(simp_all;omega)|grind)];first|done|rfl)|(rw[if_neg (by first|omega|(simp_all;done)|(simp_all;omega)|grind)])))) (.refl _) zt
 simp at hr2
 try dsimp only[Con.kind,Con.parts,Con.name,Con.lo,Con.hi,Con.cap,Con.ad]at hr2
 refine Zz 7 ?_
 exact E_ eH_ () (O_ rfl (by unfold Con.fieldErr;simp only[Con.kind,Con.parts,Con.name,Con.lo,Con.hi];repeat (first|rfl|exact (if_pos (by omega)).symm|(rw[if_pos (by first|omega|(simp_all;done)|(simp_all;omega)|grind)];first|done|rfl)|(rw[if_neg (by first|omega|(simp_all;done)|(simp_all;omega)|grind)])))) (.refl _) zt
end Go.Proofs.YtamklbgaipakfaaGreatDoor
namespace Go.Proofs.YtamklbgaipakfaaGreatDoor
open Go Go.Sx Go.Proofs
attribute [local irreducible] Code.wp wpList wpAnyH
open Go.Vs
theorem tZ_ {σ τ:Type} {l:Nat} {Gj:σ→Hp} {Gx:τ→Hp} {stp:Con→σ→σ ⊕ τ} {E:List Fct} {good:Con→Prop} (hgood:∀ c p,good c→p∈c.parts→good p)
    (hY:∀ s x,x.ok→good x→hE_ Tryz.prog l x.val (Gj s) (x.memF::E) (fun _:Unit=>.bool (stp x s).isLeft) (fun _=>oc_ Gj Gx (stp x s)) (fun _=>[])) :
    ∀ (m:Nat) (c:Con),c.sz≤m→c.ok→good c→∀ (s:σ) r,Con.fold stp c s=r →
    Tri Tryz.prog 199 #[c.val,.func (.yield l) #[] #[]] (Gj s) (c.memF::E) (fun _:Unit=>.bool r.isLeft) (fun _=>oc_ Gj Gx r) (fun _=>[]):=by
  intro m
  induction m with
  | zero=>intro c h;have:=c.sz_pos;omega
  | succ m ih =>
    intro c hm hok hg s r hr
    obtain⟨k,nm,lo,hi,ad,cap,ps⟩:=c
    have hlen:=Con.ok_len hok
    simp only[Con.parts,Con.cap]at hlen
    have hgp:∀ p∈ps,good p:=fun p hp=>hgood _ p hg hp
    refine j_ Tryz.func199 rfl rfl Tryz.ntmps199 rfl fun v0=>?_
    refine Zz 2 ?_
    refine N_ rfl rfl fun b1=>Zz 5 ?_
    rcases hfc:stp (.mk k nm lo hi ad cap ps) s with s1|t1
    · skip
      refine eF_ (ι:=Unit) (fun _=>[(1,.func (.yield l) #[] #[]),(2,zp_ b1 0),(10,.bool false)]) (fun _=>(b1,.cells (Con.mk k nm lo hi ad cap ps).cells.toArray 46 (0,0))::Gj s1) (fun _=>[(Con.mk k nm lo hi ad cap ps).memF]++E) ?_ fun _=>?_
      · skip
        refine aM_ ?_
        refine Z_ J_ (H_ rfl) rfl rfl ?_
        refine Z_ J_ (cw_ (c:=.mk k nm lo hi ad cap ps) 0 R_ g_ rfl rfl) rfl rfl ?_
        refine dy_ (hY s _ hok hg) rfl rfl (@List.perm_append_comm _ [_] _) (fun v _ h=>h) rfl fun _=>?_
        rw[hfc]
        refine Z_ J_ (aG_ rfl) rfl rfl ?_
        refine bz_ ?_
        refine ci_ rfl ?_
        exact cy_ () zl (F:=[]) (by rw[List.append_nil];exact @List.perm_append_comm _ _ [_]) zh
      · skip
        refine Zz 14 ?_
        refine bp_ [(1,.func (.yield l) #[] #[]),(12,.slice ad ps.length cap),(13,.int .i64 (ps.length:Int)),(14,.int .i64 ((0:Nat):Int))] zl ?_
        refine bG_ (ι:={q:Nat×σ // q.1≤ps.length∧Con.fold.folds stp (ps.take q.1) s1=.inl q.2}) (fun i=>[(1,.func (.yield l) #[] #[]),(12,.slice ad ps.length cap),(13,.int .i64 (ps.length:Int)),(14,.int .i64 (i.1.1:Int))]) (fun i=>_::Gj i.1.2) (fun _=>_) (fun i=>ps.length - i.1.1) ⟨(0,s1),by simp[Con.fold.folds]⟩ ?_
        rintro ⟨⟨i,m1⟩,hk⟩
        refine bp_ [(1,.func (.yield l) #[] #[]),(12,.slice ad ps.length cap),(13,.int .i64 (ps.length:Int)),(14,.int .i64 (i:Int))] zl ?_
        refine Zi 2 (fun hr1=>?_) fun hr1=>?_
        · skip
          try dsimp only[Con.kind,Con.parts,Con.name,Con.lo,Con.hi,Con.cap,Con.ad]at hr1
          refine Zz 12 ?_
          obtain rfl:r=.inl m1:=by rw[← hr,Con.fold_eq,hfc];exact Con.folds_yes (show ps.length≤i by omega) hk.2
          exact E_ Tryz.results199 () rfl (@List.perm_append_comm _ [_] _) zt
        · skip
          try dsimp only[Con.kind,Con.parts,Con.name,Con.lo,Con.hi,Con.cap,Con.ad]at hr1
          have hlt:i<ps.length:=by omega
          obtain⟨p,hp⟩:∃ p,ps[i]? = some p:=⟨_,List.getElem?_eq_getElem hlt⟩
          have hpm:p∈ps:=List.mem_of_getElem? hp
          refine Zz 10 ?_
          refine c_ (C_ D_ g_ rfl rfl (fun v _ h=>Con.row_addr (c:=.mk k nm lo hi ad cap ps) h.1 hp) (by omega) (by omega)) rfl (c_ (L_ (us:=p.cells) R_ g_ rfl (fun v _ h=>((Con.mem_iff (.mk k nm lo hi ad cap ps) v).1 h.1).1) p.cells_len (Con.part_cells (c:=.mk k nm lo hi ad cap ps) (i:=i) hp)) rfl (G_ aC_ rfl fun b2=>ew_ 0 g_ rfl rfl rfl rfl (Zz 3 ?_)))
          rcases hfp:Con.fold stp p m1 with m2|t2
          · skip
            refine X_ (c_ (cw_ 0 R_ g_ rfl rfl) rfl (Zz 1 ?_))
            refine d_ (ih p (by have:=Con.sz_part (c:=.mk k nm lo hi ad cap ps) hpm;omega) (Con.ok_part (c:=.mk k nm lo hi ad cap ps) hok hpm) (hgp p hpm) m1 _ hfp) rfl (@List.perm_append_comm _ [_,_] _) (fun v _ h=>⟨Con.mem_part (c:=.mk k nm lo hi ad cap ps) h.1 hpm,h.2⟩) rfl fun _=>?_
            refine u_ (@List.perm_append_comm _ _ [_,_]) (c_ (aG_ rfl) rfl (Zz 10 ?_))
            exact z_ ⟨(i+1,m2),hlt,Con.folds_step hp hk.2 hfp⟩ (by simp;omega) zl (F:=[_]) (@List.perm_append_comm _ [_] _) zh
          · skip
            refine X_ (c_ (cw_ 0 R_ g_ rfl rfl) rfl (Zz 1 ?_))
            refine d_ (ih p (by have:=Con.sz_part (c:=.mk k nm lo hi ad cap ps) hpm;omega) (Con.ok_part (c:=.mk k nm lo hi ad cap ps) hok hpm) (hgp p hpm) m1 _ hfp) rfl (@List.perm_append_comm _ [_,_] _) (fun v _ h=>⟨Con.mem_part (c:=.mk k nm lo hi ad cap ps) h.1 hpm,h.2⟩) rfl fun _=>?_
            refine u_ (@List.perm_append_comm _ _ [_,_]) (c_ (aG_ rfl) rfl (Zz 9 ?_))
            obtain rfl:r=.inr t2:=by rw[← hr,Con.fold_eq,hfc];exact Con.folds_no hp hk.2 hfp
            exact E_ Tryz.results199 () rfl (@List.perm_append_comm _ [_,_] _) zt
    · skip
      refine eF_ (ι:=Unit) (fun _=>[(1,.func (.yield l) #[] #[]),(2,zp_ b1 0),(10,.bool true)]) (fun _=>(b1,.cells (Con.mk k nm lo hi ad cap ps).cells.toArray 46 (0,0))::Gx t1) (fun _=>[(Con.mk k nm lo hi ad cap ps).memF]++E) ?_ fun _=>?_
      · skip
        refine aM_ ?_
        refine Z_ J_ (H_ rfl) rfl rfl ?_
        refine Z_ J_ (cw_ (c:=.mk k nm lo hi ad cap ps) 0 R_ g_ rfl rfl) rfl rfl ?_
        refine dy_ (hY s _ hok hg) rfl rfl (@List.perm_append_comm _ [_] _) (fun v _ h=>h) rfl fun _=>?_
        rw[hfc]
        refine Z_ J_ (aG_ rfl) rfl rfl ?_
        refine bz_ ?_
        refine ci_ rfl ?_
        exact cy_ () zl (F:=[]) (by rw[List.append_nil];exact @List.perm_append_comm _ _ [_]) zh
      · skip
        refine Zz 8 ?_
        obtain rfl:r=.inr t1:=by rw[← hr,Con.fold_eq,hfc]
        exact E_ Tryz.results199 () rfl (@List.perm_append_comm _ [_] _) zt
theorem sd_ (c:Con) :
    Tri Tryz.prog 126 #[c.val] [] [] (fun b:Nat=>.func (.func 198) #[] #[zp_ b 0]) (fun b=>[(b,.cells c.cells.toArray 46 (0,0))]) (fun _=>[]):=by
  refine j_ Tryz.func126 rfl rfl Tryz.ntmps126 rfl fun v0=>?_
  refine Zz 2 ?_
  refine N_ rfl rfl fun b1=>Zz 5 ?_
  refine c_ (dw_ rfl rfl) rfl (Zz 4 ?_)
  exact E_ Tryz.results126 b1 rfl (F:=[]) (.refl _) zt
theorem pI_ {σ τ:Type} {l b:Nat} {Gj:σ→Hp} {Gx:τ→Hp} {stp:Con→σ→σ ⊕ τ} {E:List Fct} {good:Con→Prop} (hgood:∀ c p,good c→p∈c.parts→good p)
    (hY:∀ s x,x.ok→good x→hE_ Tryz.prog l x.val (Gj s) (x.memF::E) (fun _:Unit=>.bool (stp x s).isLeft) (fun _=>oc_ Gj Gx (stp x s)) (fun _=>[]))
    (c:Con) (hok:c.ok) (hg:good c) (s:σ) :
    Tri Tryz.prog 198 #[.func (.yield l) #[] #[],zp_ b 0] ((b,.cells c.cells.toArray 46 (0,0))::Gj s) (c.memF::E) (fun _:Unit=>.tuple #[]) (fun _=>(b,.cells c.cells.toArray 46 (0,0))::oc_ Gj Gx (Con.fold stp c s)) (fun _=>[]):=by
  refine j_ Tryz.func198 rfl rfl Tryz.ntmps198 rfl fun v0=>?_
  refine X_ (c_ (cw_ (c:=c) 0 R_ g_ rfl rfl) rfl (Zz 1 ?_))
  refine d_ (tZ_ hgood hY _ c (Nat.le_refl _) hok hg s _ rfl) rfl (@List.perm_append_comm _ [_] _) (fun v _ h=>h) rfl fun _=>Zz 2 ?_
  exact dS_ Tryz.results198 () rfl (F:=[]) (by rw[List.append_nil];exact @List.perm_append_comm _ _ [_]) zt
theorem el_ (c:Con) (hok:c.ok):Tri Tryz.prog 133 #[c.val] [] [c.memF,bn_] (fun _:Unit=>.int .i64 c.check) (fun _=>[]) (fun _=>[]):=by
 obtain⟨k,nm,lo,hi,ad,cap,ps⟩:=c
 refine ec_ Tryz.func133 rfl rfl Tryz.ntmps133 rfl fun v0=>?_
 refine Zz 2 ?_
 refine N_ rfl rfl fun b1=>G_ Tryz.zeroValue28 rfl fun b2=>Zz 4 ?_
 refine G_ aU_ rfl fun b3=>n_ 0 U_ rfl rfl rfl rfl rfl rfl (Zz 6 ?_)
 refine ki_ 0 (fits_c _ (.mk k nm lo hi ad cap ps) (Nat.le_refl _) hok 0 0 b3 (by omega) (by omega) _ rfl) rfl rfl zf rfl fun r1 hr1=>c_ (aG_ rfl) rfl (Zz 2 ?_)
 cases r1
 ·try dsimp only[Con.kind,Con.parts,Con.name,Con.lo,Con.hi,Con.cap,Con.ad]at hr1
  refine Zz 3 ?_
  refine n_ 1 Tryz.sizeOf28 rfl rfl rfl rfl rfl rfl (Zz 3 ?_)
  exact retM () (fun a v h1 h2 _=>by rw[hS_ 1 Tryz.results133 Tryz.isAgg28 rfl rfl a v h1 h2];simp[Con.check, *]) (.refl _) zt
 try dsimp only[Con.kind,Con.parts,Con.name,Con.lo,Con.hi,Con.cap,Con.ad]at hr1
 refine Zz 7 ?_
 refine d_ (sd_ (.mk k nm lo hi ad cap ps)) rfl (.refl _) zt rfl fun b=>Zz 3 ?_
 refine bp_ [(2,zp_ b2 0),(10,.func (.func 198) #[] #[zp_ b 0])] zl ?_
 refine eC_ (H':=[_,_]) (F:=[_,_]) (.cons _ (.swap _ _ _)) zh ?_
 refine lj_ (α:={c:Con // c.ok}) (xv:=fun x=>x.1.val) (good:=fun _=>True) (stp:=fun x=>Con.chk x.1) (Γx:=fun x=>[x.1.memF,bn_]) (Γi:=[Con.memF (.mk k nm lo hi ad cap ps),bn_]) (Hj:=fun _:Unit=>[(b2,.cells #[.int .i64 0] 28 (0,0))]) (Hx:=fun t:Int=>[(b2,.cells #[.int .i64 t] 28 (0,0))]) (Hc:=[(b,.cells (Con.mk k nm lo hi ad cap ps).cells.toArray 46 (0,0))]) (caps:=[zp_ b 0]) () (Con.fold Con.chk (.mk k nm lo hi ad cap ps) ()) rfl (.refl _) (fun v _ h=>h) ?_ ?_ ?_ ?_
 ·rintro l D rec hp hst hpe ht hasg hbody s ⟨x,hx⟩ -
  refine jG_ (ι:=Nat) (Hj:=fun _:Unit=>[(b2,.cells #[.int .i64 0] 28 (0,0))]) (Hx:=fun t:Int=>[(b2,.cells #[.int .i64 t] 28 (0,0))]) (s:=s) (res:=Con.chk x s) (Γ:=[x.memF,bn_]) (fun b4=>[(2,zp_ b2 0),(4,zp_ b4 0)]) (fun b4=>[(b4,.cells x.cells.toArray 46 (0,0)),(b2,.cells #[.int .i64 0] 28 (0,0))]) hp hst hpe ht rfl ?_ ?_
  ·intro n v0 H0 HL
   rw[hasg]
   refine aM_ ?_
   refine pb_ (bc_ _) aC_ rfl fun b4=>?_
   refine nP_ (bc_ _) 0 g_ rfl rfl rfl rfl ?_
   refine bz_ ?_
   refine ci_ rfl ?_
   exact cy_ b4 zl (F:=[]) (by rw[List.append_nil];exact .refl _) zh
  intro n v0 H0 HL b4
  rw[hbody]
  refine fb_ ?_
  refine eG_ ?_
  refine aM_ ?_
  refine Z_ (bc_ _) (cw_ 0 R_ g_ rfl rfl) rfl rfl ?_
  refine rt_ (kS_ x hx) rfl (.refl _) zf rfl fun _=>?_
  refine Z_ (bc_ _) (aq_ rfl) rfl rfl ?_
  refine bz_ ?_
  refine cz_ rfl ?_
  refine eG_ ?_
  refine aM_ ?_
  refine Z_ (bc_ _) (H_ rfl) rfl rfl ?_
  refine lv_ (bc_ _) (bR_ rfl rfl) rfl rfl fun r2 hr2=>?_
  refine bz_ ?_
  refine cz_ rfl ?_
  cases r2
  ·replace hr2:=dZ_ hr2
   try dsimp only[Con.kind,Con.parts,Con.name,Con.lo,Con.hi,Con.cap,Con.ad]at hr2
   refine nw_ rfl ?_
   refine lk_ ?_
   refine ci_ rfl ?_
   exact ll_ () (by simp[Con.chk, *]) (G:=[_]) (@List.perm_append_comm _ [_] _)
  replace hr2:=dV_ hr2
  try dsimp only[Con.kind,Con.parts,Con.name,Con.lo,Con.hi,Con.cap,Con.ad]at hr2
  refine nv_ rfl ?_
  refine eG_ ?_
  refine aM_ ?_
  refine Z_ (bc_ _) (H_ rfl) rfl rfl ?_
  refine dQ_ (bc_ _) 1 Tryz.sizeOf28 rfl rfl rfl rfl rfl rfl ?_
  refine bz_ ?_
  refine cz_ rfl ?_
  refine fz_ ?_
  exact qZ_ x.fieldErr (by simp[Con.chk, *]) (G:=[_]) (@List.perm_append_comm _ [_] _)
 ·intro l Gj Gx hY
  exact pI_ (E:=[bn_]) (good:=fun _=>True) (fun _ _ _ _=>trivial) (fun s x hx _=>hY s ⟨x,hx⟩ trivial) _ hok trivial ()
 ·intro s hs D l r
  rw[Con.fold_chk _ _ (Nat.le_refl _)]at hs
  refine cz_ rfl ?_
  refine eG_ ?_
  refine aM_ ?_
  refine dQ_ J_ 1 Tryz.sizeOf28 rfl rfl rfl rfl rfl rfl ?_
  refine bz_ ?_
  refine cz_ rfl ?_
  refine fz_ ?_
  have hz:(0:Int)=(Con.mk k nm lo hi ad cap ps).check:=by unfold Con.check;rw[if_pos (by assumption)];split at hs;(rename_i h;exact h.symm);cases hs
  exact ln_ (G:=[_,_,_]) () (fun a v h1 h2=>by rw[← hz];exact hS_ 1 Tryz.results133 Tryz.isAgg28 rfl rfl a v h1 h2) (eB_ (i:=3) rfl) ⟨_,.refl _⟩ rfl
 intro t hs D l r
 rw[Con.fold_chk _ _ (Nat.le_refl _)]at hs
 have hz:t=(Con.mk k nm lo hi ad cap ps).check:=by unfold Con.check;rw[if_pos (by assumption)];split at hs;cases hs;injection hs with hs;exact hs.symm
 exact ln_ (G:=[_,_,_]) () (fun a v h1 h2=>by rw[← hz];exact hS_ 1 Tryz.results133 Tryz.isAgg28 rfl rfl a v h1 h2) (eB_ (i:=3) rfl) ⟨_,.refl _⟩ rfl
end Go.Proofs.YtamklbgaipakfaaGreatDoor
namespace Go.Proofs.YtamklbgaipakfaaGreatDoor
open Go Go.Sx Go.Proofs
attribute [local irreducible] Code.wp wpList wpAnyH
open Go.Vs
theorem lC_ (c:Con):Fn0 Tryz.prog 202 #[c.val] (.bool c.empty):=by
 obtain⟨k,nm,lo,hi,ad,cap,ps⟩:=c
 refine j_ Tryz.func202 rfl rfl Tryz.ntmps202 rfl fun v0=>?_
 refine Zz 2 ?_
 refine N_ rfl rfl fun b1=>Zz 7 ?_
 refine y_ (ay_ rfl rfl) rfl fun r1 hr1=>Zz 1 ?_
 refine aN_ 4 ((k==0)&&(nm==[])) (fun r=>[(0,.agg #[.int .i64 k,str nm,.int .i64 lo,.int .i64 hi,.slice ad ps.length cap]),(1,zp_ b1 0),(2,.bool false),(10,.bool r)]) ?_ fun r2 hr2=>?_
 ·cases r1
  ·have qr2:=hr1
   replace hr1:=znb hr1
   try dsimp only[Con.kind,Con.parts,Con.name,Con.lo,Con.hi,Con.cap,Con.ad]at hr1
   refine Zz 6 ?_
   exact met ⟨rfl,rfl,rfl,(m_ rfl (jaf qr2)),trivial⟩
  have qr2:=hr1
  replace hr1:=zeb hr1
  try dsimp only[Con.kind,Con.parts,Con.name,Con.lo,Con.hi,Con.cap,Con.ad]at hr1
  refine Zz 5 ?_
  refine y_ (eY_ rfl rfl) rfl fun r3 hr3=>Zz 3 ?_
  exact met ⟨rfl,rfl,rfl,(m_ rfl (jat qr2 hr3)),trivial⟩
 refine Zz 1 ?_
 refine aN_ 4 ((((k==0)&&(nm==[])))&&(lo==0)) (fun r=>[(0,.agg #[.int .i64 k,str nm,.int .i64 lo,.int .i64 hi,.slice ad ps.length cap]),(1,zp_ b1 0),(2,.bool false),(15,.bool r)]) ?_ fun r4 hr4=>?_
 ·cases r2
  ·have qr4:=hr2
   simp at hr2
   try dsimp only[Con.kind,Con.parts,Con.name,Con.lo,Con.hi,Con.cap,Con.ad]at hr2
   refine Zz 6 ?_
   exact met ⟨rfl,rfl,rfl,(m_ rfl (jaf qr4)),trivial⟩
  have qr4:=hr2
  simp at hr2
  try dsimp only[Con.kind,Con.parts,Con.name,Con.lo,Con.hi,Con.cap,Con.ad]at hr2
  refine Zz 5 ?_
  refine y_ (ay_ rfl rfl) rfl fun r5 hr5=>Zz 3 ?_
  exact met ⟨rfl,rfl,rfl,(m_ rfl (jat qr4 hr5)),trivial⟩
 refine Zz 1 ?_
 refine aN_ 4 ((((((k==0)&&(nm==[])))&&(lo==0)))&&(hi==0)) (fun r=>[(0,.agg #[.int .i64 k,str nm,.int .i64 lo,.int .i64 hi,.slice ad ps.length cap]),(1,zp_ b1 0),(2,.bool false),(20,.bool r)]) ?_ fun r6 hr6=>?_
 ·cases r4
  ·have qr6:=hr4
   simp at hr4
   try dsimp only[Con.kind,Con.parts,Con.name,Con.lo,Con.hi,Con.cap,Con.ad]at hr4
   refine Zz 6 ?_
   exact met ⟨rfl,rfl,rfl,(m_ rfl (jaf qr6)),trivial⟩
  have qr6:=hr4
  simp at hr4
  try dsimp only[Con.kind,Con.parts,Con.name,Con.lo,Con.hi,Con.cap,Con.ad]at hr4
  refine Zz 5 ?_
  refine y_ (ay_ rfl rfl) rfl fun r7 hr7=>Zz 3 ?_
  exact met ⟨rfl,rfl,rfl,(m_ rfl (jat qr6 hr7)),trivial⟩
 refine Zz 1 ?_
 refine aN_ 5 ((((((((k==0)&&(nm==[])))&&(lo==0)))&&(hi==0)))&&((ps.length:Int)==0)) (fun r=>[(0,.agg #[.int .i64 k,str nm,.int .i64 lo,.int .i64 hi,.slice ad ps.length cap]),(2,.bool false),(26,.bool r)]) ?_ fun r8 hr8=>?_
 ·cases r6
  ·have qr8:=hr6
   simp at hr6
   try dsimp only[Con.kind,Con.parts,Con.name,Con.lo,Con.hi,Con.cap,Con.ad]at hr6
   refine Zz 7 ?_
   exact met ⟨rfl,rfl,(m_ rfl (jaf qr8)),trivial⟩
  have qr8:=hr6
  simp at hr6
  try dsimp only[Con.kind,Con.parts,Con.name,Con.lo,Con.hi,Con.cap,Con.ad]at hr6
  refine Zz 7 ?_
  refine y_ (ay_ rfl rfl) rfl fun r9 hr9=>Zz 3 ?_
  exact met ⟨rfl,rfl,(m_ rfl (jat qr8 hr9)),trivial⟩
 refine Zz 4 ?_
 exact E_ Tryz.results202 () (m_ rfl hr8.symm) (.refl _) zt
theorem mA_ {g:FuncId} {pred:Con→Bool} (c:Con) (hok:c.ok) (hT:∀ p∈c.parts,Tri Tryz.prog g #[p.val] [] [p.memF] (fun _:Unit=>.bool (pred p)) (fun _=>[]) (fun _=>[])) :
    Tri Tryz.prog 253 #[.slice c.ad c.parts.length c.cap,.func (.func g) #[] #[]] [] [c.memF] (fun r:{r:Int // decide (0≤r)=c.parts.any pred}=>.int .i64 r.1) (fun _=>[]) (fun _=>[]):=by
  obtain⟨k,nm,lo,hi,ad,cap,ps⟩:=c
  have hlen:=Con.ok_len hok
  simp only[Con.parts,Con.cap]at hlen
  refine j_ Tryz.func253 rfl rfl Tryz.ntmps253 rfl fun v0=>?_
  refine Zz 14 ?_
  refine bp_ [(0,.slice ad ps.length cap),(1,.func (.func g) #[] #[]),(7,.int .i64 (ps.length:Int)),(8,.int .i64 ((0:Nat):Int))] zl ?_
  refine bG_ (ι:={q:Nat // q≤ps.length∧(ps.take q).any pred=false}) (fun i=>[(0,.slice ad ps.length cap),(1,.func (.func g) #[] #[]),(7,.int .i64 (ps.length:Int)),(8,.int .i64 (i.1:Int))]) (fun _=>_) (fun _=>_) (fun i=>ps.length - i.1) ⟨0,by simp⟩ ?_
  rintro ⟨i,hk⟩
  refine bp_ [(0,.slice ad ps.length cap),(1,.func (.func g) #[] #[]),(7,.int .i64 (ps.length:Int)),(8,.int .i64 (i:Int))] zl ?_
  refine Zi 2 (fun hr1=>?_) fun hr1=>?_
  · skip
    try dsimp only[Con.kind,Con.parts,Con.name,Con.lo,Con.hi,Con.cap,Con.ad]at hr1
    refine Zz 12 ?_
    exact E_ Tryz.results253 ⟨-1,by have:=hk.2;rw[List.take_of_length_le (by omega)]at this;show _=ps.any pred;rw[this];rfl⟩ rfl (.refl _) zt
  · skip
    try dsimp only[Con.kind,Con.parts,Con.name,Con.lo,Con.hi,Con.cap,Con.ad]at hr1
    have hlt:i<ps.length:=by omega
    obtain⟨p,hp⟩:∃ p,ps[i]? = some p:=⟨_,List.getElem?_eq_getElem hlt⟩
    have hpm:p∈ps:=List.mem_of_getElem? hp
    refine Zz 19 ?_
    refine c_ (C_ D_ g_ rfl rfl (fun v _ h=>q_ (n:=5) Con.cells_len (by decide) (((Con.mem_iff (.mk k nm lo hi ad cap ps) v).1 h.1).1) hp) (by omega) (by first|omega|(simp only[Con.parts];omega)|(simp[Con.parts];done))) rfl ?_
    refine c_ (L_ (ad:=ad) (us:=p.cells) R_ g_ rfl (fun v _ h=>((Con.mem_iff (.mk k nm lo hi ad cap ps) v).1 h.1).1) (Con.cells_len _) (o_ Con.cells_len hp)) rfl (fV_ (hT p hpm) rfl rfl (.refl _) (fun v _ h=>by exact⟨Con.mem_part (c:=(.mk k nm lo hi ad cap ps)) h.1 hpm,trivial⟩) rfl fun r2 hr2=>Zz 2 ?_)
    cases r2
    · skip
      try dsimp only[Con.kind,Con.parts,Con.name,Con.lo,Con.hi,Con.cap,Con.ad]at hr2
      refine Zz 8 ?_
      exact z_ ⟨i+1,hlt,by rw[Con.take_snoc hp,List.any_append,hk.2];simp[*]⟩ (by simp;omega) zl (.refl _) zh
    · skip
      try dsimp only[Con.kind,Con.parts,Con.name,Con.lo,Con.hi,Con.cap,Con.ad]at hr2
      refine Zz 8 ?_
      exact E_ Tryz.results253 ⟨(i:Int),by show _=ps.any pred;rw[show ps.any pred=true from List.any_eq_true.2 ⟨p,hpm,by assumption⟩];exact decide_eq_true (by omega)⟩ rfl (.refl _) zt
theorem jp_ {g:FuncId} {pred:Con→Bool} (c:Con) (hok:c.ok) (hT:∀ p∈c.parts,Tri Tryz.prog g #[p.val] [] [p.memF] (fun _:Unit=>.bool (pred p)) (fun _=>[]) (fun _=>[])) :
    Tri Tryz.prog 206 #[.slice c.ad c.parts.length c.cap,.func (.func g) #[] #[]] [] [c.memF] (fun _:Unit=>.bool (c.parts.any pred)) (fun _=>[]) (fun _=>[]):=by
  obtain⟨k,nm,lo,hi,ad,cap,ps⟩:=c
  refine j_ Tryz.func206 rfl rfl Tryz.ntmps206 rfl fun v0=>?_
  refine Zz 9 ?_
  refine d_ (mA_ (.mk k nm lo hi ad cap ps) hok hT) rfl (.refl _) (fun v _ h=>h) rfl fun x=>y_ (hJ_ rfl rfl) rfl fun r1 hr1=>Zz 4 ?_
  exact E_ Tryz.results206 () (m_ rfl (hr1.symm.trans x.2)) (.refl _) zt
theorem bP_:∀ (m:Nat) (c:Con),c.sz≤m→c.ok→Tri Tryz.prog 134 #[c.val] [] [c.memF] (fun _:Unit=>.bool c.bare) (fun _=>[]) (fun _=>[]):=by
 intro m
 induction m with
 | zero=>intro c h;have:=c.sz_pos;omega
 | succ m ih =>
   intro c hm hok
   obtain⟨k,nm,lo,hi,ad,cap,ps⟩:=c
   refine j_ Tryz.func134 rfl rfl Tryz.ntmps134 rfl fun v0=>?_
   refine Zz 2 ?_
   refine N_ rfl rfl fun b1=>Zi 13 (fun hr1=>?_) fun hr1=>?_
   · skip
     try dsimp only[Con.kind,Con.parts,Con.name,Con.lo,Con.hi,Con.cap,Con.ad]at hr1
     refine Zi 6 (fun hr2=>?_) fun hr2=>?_
     · skip
       try dsimp only[Con.kind,Con.parts,Con.name,Con.lo,Con.hi,Con.cap,Con.ad]at hr2
       refine Zz 12 ?_
       exact E_ Tryz.results134 () (m_ rfl (by rw[Con.bare_eq];simp only[Con.kind,Con.parts]at *;simp[*])) (.refl _) zt
     · skip
       try dsimp only[Con.kind,Con.parts,Con.name,Con.lo,Con.hi,Con.cap,Con.ad]at hr2
       refine Zz 8 ?_
       refine af_ (jp_ (pred:=Con.bare) (.mk k nm lo hi ad cap ps) hok (fun p hp=>ih p (by have:=Con.sz_part (c:=(.mk k nm lo hi ad cap ps)) hp;omega) (Con.ok_part (c:=(.mk k nm lo hi ad cap ps)) hok hp))) rfl (.refl _) (fun v _ h=>h) rfl fun r3 hr3=>?_
       refine Zz 4 ?_
       exact E_ Tryz.results134 () (m_ rfl (by rw[Con.bare_eq];simp only[Con.kind,Con.parts]at *;simp[*])) (.refl _) zt
   · skip
     try dsimp only[Con.kind,Con.parts,Con.name,Con.lo,Con.hi,Con.cap,Con.ad]at hr1
     refine Zz 10 ?_
     exact E_ Tryz.results134 () (m_ rfl (by rw[Con.bare_eq];simp only[Con.kind,Con.parts]at *;simp[*])) (.refl _) zt
theorem pn_ (x:Ax):Tri Tryz.prog 131 #[x.val] [] [bn_] (fun _:Unit=>.bool x.shaped) (fun _=>[]) (fun _=>[]):=by
 obtain⟨k,op,⟨kl,nl,ll,hl,al,cl,pl⟩,⟨kr,nr,lr,hr,ar,cr,pr⟩,ad,cap,rs,ro,a,b⟩:=x
 refine j_ Tryz.func131 rfl rfl Tryz.ntmps131 rfl fun v0=>?_
 refine Zz 2 ?_
 refine N_ rfl rfl fun b1=>Zz 8 ?_
 refine y_ (dN_ rfl rfl) rfl fun r1 hr1=>Zz 1 ?_
 refine aN_ 4 ((decide (k<1))||(decide (9<k))) (fun r=>[(0,.agg #[.int .i64 k,.bool op,.int .i64 kl,str nl,.int .i64 ll,.int .i64 hl,.slice al pl.length cl,.int .i64 kr,str nr,.int .i64 lr,.int .i64 hr,.slice ar pr.length cr,.slice ad rs.length cap,str ro,str a,str b]),(1,zp_ b1 0),(2,.bool false),(11,.bool r)]) ?_ fun r2 hr2=>?_
 ·cases r1
  ·have qr2:=hr1
   replace hr1:=zdf hr1
   try dsimp only[Con.kind,Con.parts,Con.name,Con.lo,Con.hi,Con.cap,Con.ad]at hr1
   refine Zz 5 ?_
   refine y_ (eb_ rfl rfl) rfl fun r3 hr3=>Zz 3 ?_
   exact met ⟨rfl,rfl,rfl,(m_ rfl (jof qr2 hr3)),trivial⟩
  have qr2:=hr1
  replace hr1:=zdt hr1
  try dsimp only[Con.kind,Con.parts,Con.name,Con.lo,Con.hi,Con.cap,Con.ad]at hr1
  refine Zz 6 ?_
  exact met ⟨rfl,rfl,rfl,(m_ rfl (jot qr2)),trivial⟩
 refine Zz 2 ?_
 cases r2
 ·simp at hr2
  try dsimp only[Con.kind,Con.parts,Con.name,Con.lo,Con.hi,Con.cap,Con.ad]at hr2
  obtain⟨u,hx⟩:∃ u,nj_[k.toNat]? = some u:=⟨_,List.getElem?_eq_getElem (show k.toNat<10 by omega)⟩
  have hus:us k=u:=by simp[us,hx]
  obtain⟨ul,ur,uo,ua,ub,um,un⟩:=u
  refine Zz 7 ?_
  refine c_ (er_ qX_ cg_ rfl rfl (by show (0:Int)≤k;omega) (by show k<(10:Int);omega)) rfl ?_
  refine c_ (L_ (ad:=some ⟨0,0,none⟩) (us:=Use.cells ⟨ul,ur,uo,ua,ub,um,un⟩) vf_ cg_ rfl (fun v _ h=>h.1.2.1) (Use.cells_len _) (o_ Use.cells_len hx)) rfl (G_ Tryz.zeroValue150 rfl fun b2=>n_ 0 cg_ rfl rfl rfl rfl rfl rfl (Zz 7 ?_))
  refine aN_ 4 ((ul)||(Con.empty (.mk kl nl ll hl al cl pl))) (fun r=>[(0,.agg #[.int .i64 k,.bool op,.int .i64 kl,str nl,.int .i64 ll,.int .i64 hl,.slice al pl.length cl,.int .i64 kr,str nr,.int .i64 lr,.int .i64 hr,.slice ar pr.length cr,.slice ad rs.length cap,str ro,str a,str b]),(1,zp_ b1 0),(2,.bool false),(11,.bool false),(12,zp_ b1 0),(13,.int .i64 k),(14,.pointer (some (rad (some ⟨0,0,none⟩) (k.toNat*7)))),(15,.agg #[.bool ul,.bool ur,.bool uo,.bool ua,.bool ub,.int .i64 um,.int .i64 un]),(3,zp_ b2 0),(22,.bool r)]) ?_ fun r4 hr4=>?_
  ·cases ul
   ·try dsimp only[Con.kind,Con.parts,Con.name,Con.lo,Con.hi,Con.cap,Con.ad]at hul
    refine Zz 5 ?_
    refine af_ (lC_ (.mk kl nl ll hl al cl pl)) rfl (.refl _) zt rfl fun r5 hr5=>Zz 3 ?_
    exact met ⟨rfl,rfl,rfl,rfl,rfl,rfl,rfl,rfl,rfl,(m_ rfl (jof rfl hr5)),trivial⟩
   try dsimp only[Con.kind,Con.parts,Con.name,Con.lo,Con.hi,Con.cap,Con.ad]at hul
   refine Zz 6 ?_
   exact met ⟨rfl,rfl,rfl,rfl,rfl,rfl,rfl,rfl,rfl,(m_ rfl (jot rfl)),trivial⟩
  refine Zz 1 ?_
  refine aN_ 8 ((((ul)||(Con.empty (.mk kl nl ll hl al cl pl))))&&(((ur)||(Con.empty (.mk kr nr lr hr ar cr pr))))) (fun r=>[(0,.agg #[.int .i64 k,.bool op,.int .i64 kl,str nl,.int .i64 ll,.int .i64 hl,.slice al pl.length cl,.int .i64 kr,str nr,.int .i64 lr,.int .i64 hr,.slice ar pr.length cr,.slice ad rs.length cap,str ro,str a,str b]),(1,zp_ b1 0),(2,.bool false),(11,.bool false),(12,zp_ b1 0),(13,.int .i64 k),(14,.pointer (some (rad (some ⟨0,0,none⟩) (k.toNat*7)))),(15,.agg #[.bool ul,.bool ur,.bool uo,.bool ua,.bool ub,.int .i64 um,.int .i64 un]),(3,zp_ b2 0),(31,.bool r)]) ?_ fun r6 hr6=>?_
  ·cases r4
   ·have qr6:=hr4
    simp at hr4
    try dsimp only[Con.kind,Con.parts,Con.name,Con.lo,Con.hi,Con.cap,Con.ad]at hr4
    refine Zz 10 ?_
    exact met ⟨rfl,rfl,rfl,rfl,rfl,rfl,rfl,rfl,rfl,(m_ rfl (jaf qr6)),trivial⟩
   have qr6:=hr4
   simp at hr4
   try dsimp only[Con.kind,Con.parts,Con.name,Con.lo,Con.hi,Con.cap,Con.ad]at hr4
   refine Zz 6 ?_
   refine aN_ 4 ((ur)||(Con.empty (.mk kr nr lr hr ar cr pr))) (fun r=>[(0,.agg #[.int .i64 k,.bool op,.int .i64 kl,str nl,.int .i64 ll,.int .i64 hl,.slice al pl.length cl,.int .i64 kr,str nr,.int .i64 lr,.int .i64 hr,.slice ar pr.length cr,.slice ad rs.length cap,str ro,str a,str b]),(1,zp_ b1 0),(2,.bool false),(11,.bool false),(12,zp_ b1 0),(13,.int .i64 k),(14,.pointer (some (rad (some ⟨0,0,none⟩) (k.toNat*7)))),(15,.agg #[.bool ul,.bool ur,.bool uo,.bool ua,.bool ub,.int .i64 um,.int .i64 un]),(3,zp_ b2 0),(23,.bool true),(30,.bool r)]) ?_ fun r7 hr7=>?_
   ·cases ur
    ·try dsimp only[Con.kind,Con.parts,Con.name,Con.lo,Con.hi,Con.cap,Con.ad]at hur
     refine Zz 5 ?_
     refine af_ (lC_ (.mk kr nr lr hr ar cr pr)) rfl (.refl _) zt rfl fun r8 hr8=>Zz 4 ?_
     exact met ⟨rfl,rfl,rfl,rfl,rfl,rfl,rfl,rfl,rfl,rfl,(m_ rfl (jof rfl hr8)),trivial⟩
    try dsimp only[Con.kind,Con.parts,Con.name,Con.lo,Con.hi,Con.cap,Con.ad]at hur
    refine Zz 7 ?_
    exact met ⟨rfl,rfl,rfl,rfl,rfl,rfl,rfl,rfl,rfl,rfl,(m_ rfl (jot rfl)),trivial⟩
   refine Zz 3 ?_
   exact met ⟨rfl,rfl,rfl,rfl,rfl,rfl,rfl,rfl,rfl,(m_ rfl (jat qr6 hr7)),trivial⟩
  refine Zz 1 ?_
  refine aN_ 8 ((((((ul)||(Con.empty (.mk kl nl ll hl al cl pl))))&&(((ur)||(Con.empty (.mk kr nr lr hr ar cr pr))))))&&(((uo)||(ro==[])))) (fun r=>[(0,.agg #[.int .i64 k,.bool op,.int .i64 kl,str nl,.int .i64 ll,.int .i64 hl,.slice al pl.length cl,.int .i64 kr,str nr,.int .i64 lr,.int .i64 hr,.slice ar pr.length cr,.slice ad rs.length cap,str ro,str a,str b]),(1,zp_ b1 0),(2,.bool false),(11,.bool false),(12,zp_ b1 0),(13,.int .i64 k),(14,.pointer (some (rad (some ⟨0,0,none⟩) (k.toNat*7)))),(15,.agg #[.bool ul,.bool ur,.bool uo,.bool ua,.bool ub,.int .i64 um,.int .i64 un]),(3,zp_ b2 0),(40,.bool r)]) ?_ fun r9 hr9=>?_
  ·cases r6
   ·have qr9:=hr6
    simp at hr6
    try dsimp only[Con.kind,Con.parts,Con.name,Con.lo,Con.hi,Con.cap,Con.ad]at hr6
    refine Zz 10 ?_
    exact met ⟨rfl,rfl,rfl,rfl,rfl,rfl,rfl,rfl,rfl,(m_ rfl (jaf qr9)),trivial⟩
   have qr9:=hr6
   simp at hr6
   try dsimp only[Con.kind,Con.parts,Con.name,Con.lo,Con.hi,Con.cap,Con.ad]at hr6
   refine Zz 6 ?_
   refine aN_ 4 ((uo)||(ro==[])) (fun r=>[(0,.agg #[.int .i64 k,.bool op,.int .i64 kl,str nl,.int .i64 ll,.int .i64 hl,.slice al pl.length cl,.int .i64 kr,str nr,.int .i64 lr,.int .i64 hr,.slice ar pr.length cr,.slice ad rs.length cap,str ro,str a,str b]),(1,zp_ b1 0),(2,.bool false),(11,.bool false),(12,zp_ b1 0),(13,.int .i64 k),(14,.pointer (some (rad (some ⟨0,0,none⟩) (k.toNat*7)))),(15,.agg #[.bool ul,.bool ur,.bool uo,.bool ua,.bool ub,.int .i64 um,.int .i64 un]),(3,zp_ b2 0),(32,.bool true),(39,.bool r)]) ?_ fun r10 hr10=>?_
   ·cases uo
    ·try dsimp only[Con.kind,Con.parts,Con.name,Con.lo,Con.hi,Con.cap,Con.ad]at huo
     refine Zz 5 ?_
     refine y_ (eY_ rfl rfl) rfl fun r11 hr11=>Zz 4 ?_
     exact met ⟨rfl,rfl,rfl,rfl,rfl,rfl,rfl,rfl,rfl,rfl,(m_ rfl (jof rfl hr11)),trivial⟩
    try dsimp only[Con.kind,Con.parts,Con.name,Con.lo,Con.hi,Con.cap,Con.ad]at huo
    refine Zz 7 ?_
    exact met ⟨rfl,rfl,rfl,rfl,rfl,rfl,rfl,rfl,rfl,rfl,(m_ rfl (jot rfl)),trivial⟩
   refine Zz 3 ?_
   exact met ⟨rfl,rfl,rfl,rfl,rfl,rfl,rfl,rfl,rfl,(m_ rfl (jat qr9 hr10)),trivial⟩
  refine Zz 1 ?_
  refine aN_ 8 ((((((((ul)||(Con.empty (.mk kl nl ll hl al cl pl))))&&(((ur)||(Con.empty (.mk kr nr lr hr ar cr pr))))))&&(((uo)||(ro==[])))))&&(((ua)||(a==[])))) (fun r=>[(0,.agg #[.int .i64 k,.bool op,.int .i64 kl,str nl,.int .i64 ll,.int .i64 hl,.slice al pl.length cl,.int .i64 kr,str nr,.int .i64 lr,.int .i64 hr,.slice ar pr.length cr,.slice ad rs.length cap,str ro,str a,str b]),(1,zp_ b1 0),(2,.bool false),(11,.bool false),(12,zp_ b1 0),(13,.int .i64 k),(14,.pointer (some (rad (some ⟨0,0,none⟩) (k.toNat*7)))),(15,.agg #[.bool ul,.bool ur,.bool uo,.bool ua,.bool ub,.int .i64 um,.int .i64 un]),(3,zp_ b2 0),(49,.bool r)]) ?_ fun r12 hr12=>?_
  ·cases r9
   ·have qr12:=hr9
    simp at hr9
    try dsimp only[Con.kind,Con.parts,Con.name,Con.lo,Con.hi,Con.cap,Con.ad]at hr9
    refine Zz 10 ?_
    exact met ⟨rfl,rfl,rfl,rfl,rfl,rfl,rfl,rfl,rfl,(m_ rfl (jaf qr12)),trivial⟩
   have qr12:=hr9
   simp at hr9
   try dsimp only[Con.kind,Con.parts,Con.name,Con.lo,Con.hi,Con.cap,Con.ad]at hr9
   refine Zz 6 ?_
   refine aN_ 4 ((ua)||(a==[])) (fun r=>[(0,.agg #[.int .i64 k,.bool op,.int .i64 kl,str nl,.int .i64 ll,.int .i64 hl,.slice al pl.length cl,.int .i64 kr,str nr,.int .i64 lr,.int .i64 hr,.slice ar pr.length cr,.slice ad rs.length cap,str ro,str a,str b]),(1,zp_ b1 0),(2,.bool false),(11,.bool false),(12,zp_ b1 0),(13,.int .i64 k),(14,.pointer (some (rad (some ⟨0,0,none⟩) (k.toNat*7)))),(15,.agg #[.bool ul,.bool ur,.bool uo,.bool ua,.bool ub,.int .i64 um,.int .i64 un]),(3,zp_ b2 0),(41,.bool true),(48,.bool r)]) ?_ fun r13 hr13=>?_
   ·cases ua
    ·try dsimp only[Con.kind,Con.parts,Con.name,Con.lo,Con.hi,Con.cap,Con.ad]at hua
     refine Zz 5 ?_
     refine y_ (eY_ rfl rfl) rfl fun r14 hr14=>Zz 4 ?_
     exact met ⟨rfl,rfl,rfl,rfl,rfl,rfl,rfl,rfl,rfl,rfl,(m_ rfl (jof rfl hr14)),trivial⟩
    try dsimp only[Con.kind,Con.parts,Con.name,Con.lo,Con.hi,Con.cap,Con.ad]at hua
    refine Zz 7 ?_
    exact met ⟨rfl,rfl,rfl,rfl,rfl,rfl,rfl,rfl,rfl,rfl,(m_ rfl (jot rfl)),trivial⟩
   refine Zz 3 ?_
   exact met ⟨rfl,rfl,rfl,rfl,rfl,rfl,rfl,rfl,rfl,(m_ rfl (jat qr12 hr13)),trivial⟩
  refine Zz 1 ?_
  refine aN_ 8 ((((((((((ul)||(Con.empty (.mk kl nl ll hl al cl pl))))&&(((ur)||(Con.empty (.mk kr nr lr hr ar cr pr))))))&&(((uo)||(ro==[])))))&&(((ua)||(a==[])))))&&(((ub)||(b==[])))) (fun r=>[(0,.agg #[.int .i64 k,.bool op,.int .i64 kl,str nl,.int .i64 ll,.int .i64 hl,.slice al pl.length cl,.int .i64 kr,str nr,.int .i64 lr,.int .i64 hr,.slice ar pr.length cr,.slice ad rs.length cap,str ro,str a,str b]),(1,zp_ b1 0),(2,.bool false),(11,.bool false),(12,zp_ b1 0),(13,.int .i64 k),(14,.pointer (some (rad (some ⟨0,0,none⟩) (k.toNat*7)))),(15,.agg #[.bool ul,.bool ur,.bool uo,.bool ua,.bool ub,.int .i64 um,.int .i64 un]),(3,zp_ b2 0),(58,.bool r)]) ?_ fun r15 hr15=>?_
  ·cases r12
   ·have qr15:=hr12
    simp at hr12
    try dsimp only[Con.kind,Con.parts,Con.name,Con.lo,Con.hi,Con.cap,Con.ad]at hr12
    refine Zz 10 ?_
    exact met ⟨rfl,rfl,rfl,rfl,rfl,rfl,rfl,rfl,rfl,(m_ rfl (jaf qr15)),trivial⟩
   have qr15:=hr12
   simp at hr12
   try dsimp only[Con.kind,Con.parts,Con.name,Con.lo,Con.hi,Con.cap,Con.ad]at hr12
   refine Zz 6 ?_
   refine aN_ 4 ((ub)||(b==[])) (fun r=>[(0,.agg #[.int .i64 k,.bool op,.int .i64 kl,str nl,.int .i64 ll,.int .i64 hl,.slice al pl.length cl,.int .i64 kr,str nr,.int .i64 lr,.int .i64 hr,.slice ar pr.length cr,.slice ad rs.length cap,str ro,str a,str b]),(1,zp_ b1 0),(2,.bool false),(11,.bool false),(12,zp_ b1 0),(13,.int .i64 k),(14,.pointer (some (rad (some ⟨0,0,none⟩) (k.toNat*7)))),(15,.agg #[.bool ul,.bool ur,.bool uo,.bool ua,.bool ub,.int .i64 um,.int .i64 un]),(3,zp_ b2 0),(50,.bool true),(57,.bool r)]) ?_ fun r16 hr16=>?_
   ·cases ub
    ·try dsimp only[Con.kind,Con.parts,Con.name,Con.lo,Con.hi,Con.cap,Con.ad]at hub
     refine Zz 5 ?_
     refine y_ (eY_ rfl rfl) rfl fun r17 hr17=>Zz 4 ?_
     exact met ⟨rfl,rfl,rfl,rfl,rfl,rfl,rfl,rfl,rfl,rfl,(m_ rfl (jof rfl hr17)),trivial⟩
    try dsimp only[Con.kind,Con.parts,Con.name,Con.lo,Con.hi,Con.cap,Con.ad]at hub
    refine Zz 7 ?_
    exact met ⟨rfl,rfl,rfl,rfl,rfl,rfl,rfl,rfl,rfl,rfl,(m_ rfl (jot rfl)),trivial⟩
   refine Zz 3 ?_
   exact met ⟨rfl,rfl,rfl,rfl,rfl,rfl,rfl,rfl,rfl,(m_ rfl (jat qr15 hr16)),trivial⟩
  refine Zz 1 ?_
  refine aN_ 7 ((((((((((((ul)||(Con.empty (.mk kl nl ll hl al cl pl))))&&(((ur)||(Con.empty (.mk kr nr lr hr ar cr pr))))))&&(((uo)||(ro==[])))))&&(((ua)||(a==[])))))&&(((ub)||(b==[])))))&&(decide (um≤(rs.length:Int)))) (fun r=>[(0,.agg #[.int .i64 k,.bool op,.int .i64 kl,str nl,.int .i64 ll,.int .i64 hl,.slice al pl.length cl,.int .i64 kr,str nr,.int .i64 lr,.int .i64 hr,.slice ar pr.length cr,.slice ad rs.length cap,str ro,str a,str b]),(1,zp_ b1 0),(2,.bool false),(11,.bool false),(12,zp_ b1 0),(13,.int .i64 k),(14,.pointer (some (rad (some ⟨0,0,none⟩) (k.toNat*7)))),(15,.agg #[.bool ul,.bool ur,.bool uo,.bool ua,.bool ub,.int .i64 um,.int .i64 un]),(3,zp_ b2 0),(66,.bool r)]) ?_ fun r18 hr18=>?_
  ·cases r15
   ·have qr18:=hr15
    simp at hr15
    try dsimp only[Con.kind,Con.parts,Con.name,Con.lo,Con.hi,Con.cap,Con.ad]at hr15
    refine Zz 9 ?_
    exact met ⟨rfl,rfl,rfl,rfl,rfl,rfl,rfl,rfl,rfl,(m_ rfl (jaf qr18)),trivial⟩
   have qr18:=hr15
   simp at hr15
   try dsimp only[Con.kind,Con.parts,Con.name,Con.lo,Con.hi,Con.cap,Con.ad]at hr15
   refine Zz 11 ?_
   refine y_ (hJ_ rfl rfl) rfl fun r19 hr19=>Zz 3 ?_
   exact met ⟨rfl,rfl,rfl,rfl,rfl,rfl,rfl,rfl,rfl,(m_ rfl (jat qr18 hr19)),trivial⟩
  refine Zz 1 ?_
  refine aN_ 7 ((((((((((((((ul)||(Con.empty (.mk kl nl ll hl al cl pl))))&&(((ur)||(Con.empty (.mk kr nr lr hr ar cr pr))))))&&(((uo)||(ro==[])))))&&(((ua)||(a==[])))))&&(((ub)||(b==[])))))&&(decide (um≤(rs.length:Int)))))&&(decide ((rs.length:Int)≤un))) (fun r=>[(0,.agg #[.int .i64 k,.bool op,.int .i64 kl,str nl,.int .i64 ll,.int .i64 hl,.slice al pl.length cl,.int .i64 kr,str nr,.int .i64 lr,.int .i64 hr,.slice ar pr.length cr,.slice ad rs.length cap,str ro,str a,str b]),(1,zp_ b1 0),(2,.bool false),(11,.bool false),(12,zp_ b1 0),(13,.int .i64 k),(14,.pointer (some (rad (some ⟨0,0,none⟩) (k.toNat*7)))),(15,.agg #[.bool ul,.bool ur,.bool uo,.bool ua,.bool ub,.int .i64 um,.int .i64 un]),(3,zp_ b2 0),(74,.bool r)]) ?_ fun r20 hr20=>?_
  ·cases r18
   ·have qr20:=hr18
    simp at hr18
    try dsimp only[Con.kind,Con.parts,Con.name,Con.lo,Con.hi,Con.cap,Con.ad]at hr18
    refine Zz 9 ?_
    exact met ⟨rfl,rfl,rfl,rfl,rfl,rfl,rfl,rfl,rfl,(m_ rfl (jaf qr20)),trivial⟩
   have qr20:=hr18
   simp at hr18
   try dsimp only[Con.kind,Con.parts,Con.name,Con.lo,Con.hi,Con.cap,Con.ad]at hr18
   refine Zz 11 ?_
   refine y_ (fm_ rfl rfl) rfl fun r21 hr21=>Zz 3 ?_
   exact met ⟨rfl,rfl,rfl,rfl,rfl,rfl,rfl,rfl,rfl,(m_ rfl (jat qr20 hr21)),trivial⟩
  refine Zz 4 ?_
  exact E_ Tryz.results131 () (m_ rfl (by unfold Ax.shaped;rw[if_neg (by simp only[not_or];omega)];simp only[hus];exact hr20.symm)) (.refl _) zt
 simp at hr2
 try dsimp only[Con.kind,Con.parts,Con.name,Con.lo,Con.hi,Con.cap,Con.ad]at hr2
 refine Zz 7 ?_
 exact E_ Tryz.results131 () (m_ rfl (by unfold Ax.shaped;rw[if_pos (by simpa using hr2)])) (.refl _) zt
theorem pn (s:Str):(((if aQ_ s then 0 else 20):Int) != 0)=!aQ_ s:=by cases aQ_ s<;>rfl
theorem rD_ (x:Ax) (hok:x.ok) (u:Use):Tri Tryz.prog 132 #[x.val,.agg u.cells.toArray] [] [x.memF] (fun _:Unit=>.bool (x.namedU u)) (fun _=>[]) (fun _=>[]):=by
 obtain⟨k,op,⟨kl,nl,ll,hl,al,cl,pl⟩,⟨kr,nr,lr,hr,ar,cr,pr⟩,ad,cap,rs,ro,a,b⟩:=x
 obtain⟨ul,ur,uo,ua,ub,um,un⟩:=u
 have hlen:=hok.len
 have hcap:=hok.cap
 dsimp only at hlen hcap
 refine j_ Tryz.func132 rfl rfl Tryz.ntmps132 rfl fun v0=>?_
 refine Zz 2 ?_
 refine N_ rfl rfl fun b1=>N_ rfl rfl fun b2=>Zz 9 ?_
 refine aN_ 5 ((uo)&&(!(bk_ ro))) (fun r=>[(0,.agg #[.int .i64 k,.bool op,.int .i64 kl,str nl,.int .i64 ll,.int .i64 hl,.slice al pl.length cl,.int .i64 kr,str nr,.int .i64 lr,.int .i64 hr,.slice ar pr.length cr,.slice ad rs.length cap,str ro,str a,str b]),(1,.agg #[.bool ul,.bool ur,.bool uo,.bool ua,.bool ub,.int .i64 um,.int .i64 un]),(2,zp_ b1 0),(3,zp_ b2 0),(4,.bool false),(14,.bool r)]) ?_ fun r1 hr1=>?_
 ·cases uo
  ·try dsimp only[Con.kind,Con.parts,Con.name,Con.lo,Con.hi,Con.cap,Con.ad]at huo
   refine Zz 7 ?_
   exact met ⟨rfl,rfl,rfl,rfl,rfl,(m_ rfl (jaf rfl)),trivial⟩
  try dsimp only[Con.kind,Con.parts,Con.name,Con.lo,Con.hi,Con.cap,Con.ad]at huo
  refine Zz 5 ?_
  refine af_ (fE_ _) rfl (.refl _) zt rfl fun r2 hr2=>az_ rfl rfl (c_ (aG_ rfl) rfl (Zz 3 ?_))
  exact met ⟨rfl,rfl,rfl,rfl,rfl,(m_ rfl (jat rfl (jn hr2))),trivial⟩
 refine Zz 1 ?_
 refine aN_ 9 ((((uo)&&(!(bk_ ro))))||(((ua)&&(((if aQ_ a then 0 else 20):Int) != 0)))) (fun r=>[(0,.agg #[.int .i64 k,.bool op,.int .i64 kl,str nl,.int .i64 ll,.int .i64 hl,.slice al pl.length cl,.int .i64 kr,str nr,.int .i64 lr,.int .i64 hr,.slice ar pr.length cr,.slice ad rs.length cap,str ro,str a,str b]),(1,.agg #[.bool ul,.bool ur,.bool uo,.bool ua,.bool ub,.int .i64 um,.int .i64 un]),(2,zp_ b1 0),(3,zp_ b2 0),(4,.bool false),(24,.bool r)]) ?_ fun r3 hr3=>?_
 ·cases r1
  ·have qr3:=hr1
   try dsimp only[Con.kind,Con.parts,Con.name,Con.lo,Con.hi,Con.cap,Con.ad]at hr1
   refine Zz 6 ?_
   refine aN_ 5 ((ua)&&(((if aQ_ a then 0 else 20):Int) != 0)) (fun r=>[(0,.agg #[.int .i64 k,.bool op,.int .i64 kl,str nl,.int .i64 ll,.int .i64 hl,.slice al pl.length cl,.int .i64 kr,str nr,.int .i64 lr,.int .i64 hr,.slice ar pr.length cr,.slice ad rs.length cap,str ro,str a,str b]),(1,.agg #[.bool ul,.bool ur,.bool uo,.bool ua,.bool ub,.int .i64 um,.int .i64 un]),(2,zp_ b1 0),(3,zp_ b2 0),(4,.bool false),(15,.bool false),(23,.bool r)]) ?_ fun r4 hr4=>?_
   ·cases ua
    ·try dsimp only[Con.kind,Con.parts,Con.name,Con.lo,Con.hi,Con.cap,Con.ad]at hua
     refine Zz 8 ?_
     exact met ⟨rfl,rfl,rfl,rfl,rfl,rfl,(m_ rfl (jaf rfl)),trivial⟩
    try dsimp only[Con.kind,Con.parts,Con.name,Con.lo,Con.hi,Con.cap,Con.ad]at hua
    refine Zz 5 ?_
    refine d_ (cv_ _ hok.a) rfl (.refl _) zt rfl fun _=>az_ rfl rfl (y_ (bR_ rfl rfl) rfl fun r5 hr5=>Zz 4 ?_)
    exact met ⟨rfl,rfl,rfl,rfl,rfl,rfl,(m_ rfl (jat rfl hr5)),trivial⟩
   refine Zz 3 ?_
   exact met ⟨rfl,rfl,rfl,rfl,rfl,(m_ rfl (jof qr3 hr4)),trivial⟩
  have qr3:=hr1
  try dsimp only[Con.kind,Con.parts,Con.name,Con.lo,Con.hi,Con.cap,Con.ad]at hr1
  refine Zz 11 ?_
  exact met ⟨rfl,rfl,rfl,rfl,rfl,(m_ rfl (jot qr3)),trivial⟩
 refine Zz 1 ?_
 refine aN_ 9 ((((((uo)&&(!(bk_ ro))))||(((ua)&&(((if aQ_ a then 0 else 20):Int) != 0)))))||(((ub)&&(((if aQ_ b then 0 else 20):Int) != 0)))) (fun r=>[(0,.agg #[.int .i64 k,.bool op,.int .i64 kl,str nl,.int .i64 ll,.int .i64 hl,.slice al pl.length cl,.int .i64 kr,str nr,.int .i64 lr,.int .i64 hr,.slice ar pr.length cr,.slice ad rs.length cap,str ro,str a,str b]),(1,.agg #[.bool ul,.bool ur,.bool uo,.bool ua,.bool ub,.int .i64 um,.int .i64 un]),(2,zp_ b1 0),(4,.bool false),(34,.bool r)]) ?_ fun r6 hr6=>?_
 ·cases r3
  ·have qr6:=hr3
   try dsimp only[Con.kind,Con.parts,Con.name,Con.lo,Con.hi,Con.cap,Con.ad]at hr3
   refine Zz 6 ?_
   refine aN_ 5 ((ub)&&(((if aQ_ b then 0 else 20):Int) != 0)) (fun r=>[(0,.agg #[.int .i64 k,.bool op,.int .i64 kl,str nl,.int .i64 ll,.int .i64 hl,.slice al pl.length cl,.int .i64 kr,str nr,.int .i64 lr,.int .i64 hr,.slice ar pr.length cr,.slice ad rs.length cap,str ro,str a,str b]),(1,.agg #[.bool ul,.bool ur,.bool uo,.bool ua,.bool ub,.int .i64 um,.int .i64 un]),(2,zp_ b1 0),(4,.bool false),(25,.bool false),(33,.bool r)]) ?_ fun r7 hr7=>?_
   ·cases ub
    ·try dsimp only[Con.kind,Con.parts,Con.name,Con.lo,Con.hi,Con.cap,Con.ad]at hub
     refine Zz 8 ?_
     exact met ⟨rfl,rfl,rfl,rfl,rfl,(m_ rfl (jaf rfl)),trivial⟩
    try dsimp only[Con.kind,Con.parts,Con.name,Con.lo,Con.hi,Con.cap,Con.ad]at hub
    refine Zz 5 ?_
    refine d_ (cv_ _ hok.b) rfl (.refl _) zt rfl fun _=>az_ rfl rfl (y_ (bR_ rfl rfl) rfl fun r8 hr8=>Zz 4 ?_)
    exact met ⟨rfl,rfl,rfl,rfl,rfl,(m_ rfl (jat rfl hr8)),trivial⟩
   refine Zz 3 ?_
   exact met ⟨rfl,rfl,rfl,rfl,(m_ rfl (jof qr6 hr7)),trivial⟩
  have qr6:=hr3
  try dsimp only[Con.kind,Con.parts,Con.name,Con.lo,Con.hi,Con.cap,Con.ad]at hr3
  refine Zz 11 ?_
  exact met ⟨rfl,rfl,rfl,rfl,(m_ rfl (jot qr6)),trivial⟩
 refine Zz 2 ?_
 cases r6
 ·try dsimp only[Con.kind,Con.parts,Con.name,Con.lo,Con.hi,Con.cap,Con.ad]at hr6
  refine Zz 13 ?_
  refine bp_ [(36,.slice ad rs.length cap),(37,.int .i64 (rs.length:Int)),(38,.int .i64 ((0:Nat):Int))] zl ?_
  refine bG_ (ι:={q:Nat // q≤rs.length∧(rs.take q).all bk_=true}) (fun i=>[(36,.slice ad rs.length cap),(37,.int .i64 (rs.length:Int)),(38,.int .i64 (i.1:Int))]) (fun _=>_) (fun _=>_) (fun i=>rs.length - i.1) ⟨0,by simp⟩ ?_
  rintro ⟨i,hk⟩
  refine bp_ [(36,.slice ad rs.length cap),(37,.int .i64 (rs.length:Int)),(38,.int .i64 (i:Int))] zl ?_
  refine Zi 2 (fun hr9=>?_) fun hr9=>?_
  ·try dsimp only[Con.kind,Con.parts,Con.name,Con.lo,Con.hi,Con.cap,Con.ad]at hr9
   refine Zz 12 ?_
   exact E_ Tryz.results132 () (m_ rfl (by have hf:rs.all bk_=true:=(by have:=hk.2;rwa [List.take_of_length_le (by omega)]at this);unfold Ax.namedU;simp only[pn]at hr6;simp only[hf,hr6];rfl)) (.refl _) zt
  try dsimp only[Con.kind,Con.parts,Con.name,Con.lo,Con.hi,Con.cap,Con.ad]at hr9
  have hlt:i<rs.length:=by omega
  obtain⟨q,hp⟩:∃ q,rs[i]? = some q:=⟨_,List.getElem?_eq_getElem hlt⟩
  refine Zz 10 ?_
  refine c_ (C_ t_ ah_ rfl rfl (fun v _ h=>q_ (n:=1) ak_ (by decide) (h.1.2.2) hp) (by omega) (by first|omega|(simp only[Con.parts];omega)|(simp[Con.parts];done))) rfl ?_
  refine c_ (bt_ (ad:=ad) aL_ rfl (fun v _ h=>h.1.2.2) (o_ ak_ hp 0 _ rfl)) rfl (Zz 6 ?_)
  refine af_ (fE_ _) rfl (.refl _) zt rfl fun r10 hr10=>c_ (aG_ rfl) rfl (Zz 2 ?_)
  cases r10
  ·try dsimp only[Con.kind,Con.parts,Con.name,Con.lo,Con.hi,Con.cap,Con.ad]at hr10
   refine Zz 7 ?_
   exact E_ Tryz.results132 () (m_ rfl (by have hf:rs.all bk_=false:=List.all_eq_false.2 ⟨q,List.mem_of_getElem? hp,by simp[*]⟩;unfold Ax.namedU;simp only[hf,Bool.and_false])) (.refl _) zt
  try dsimp only[Con.kind,Con.parts,Con.name,Con.lo,Con.hi,Con.cap,Con.ad]at hr10
  refine Zz 8 ?_
  exact z_ ⟨i+1,hlt,by rw[List.take_add_one,hp];simp only[Option.toList_some,List.all_append,hk.2];simp[*]⟩ (by simp;omega) zl (.refl _) zh
 try dsimp only[Con.kind,Con.parts,Con.name,Con.lo,Con.hi,Con.cap,Con.ad]at hr6
 refine Zz 7 ?_
 exact E_ Tryz.results132 () (m_ rfl (by unfold Ax.namedU;simp only[pn]at hr6;simp only[hr6];rfl)) (.refl _) zt
theorem Ax.shaped_kind {x:Ax} (h:x.shaped=true):1≤x.kind∧x.kind≤9:=by
 unfold Ax.shaped at h
 split at h
 ·cases h
 rename_i hh;simp only[not_or]at hh;omega
theorem eV_ (x:Ax) (hok:x.ok):Tri Tryz.prog 65 #[x.val] [] [x.memF,bn_] (fun _:Unit=>.int .i64 x.check) (fun _=>[]) (fun _=>[]):=by
 obtain⟨k,op,⟨kl,nl,ll,hl,al,cl,pl⟩,⟨kr,nr,lr,hr,ar,cr,pr⟩,ad,cap,rs,ro,a,b⟩:=x
 refine j_ Tryz.func65 rfl rfl Tryz.ntmps65 rfl fun v0=>?_
 refine Zz 2 ?_
 refine N_ rfl rfl fun b1=>Zz 7 ?_
 refine af_ (pn_ ⟨k,op,(.mk kl nl ll hl al cl pl),(.mk kr nr lr hr ar cr pr),ad,cap,rs,ro,a,b⟩) rfl (.refl _) zf rfl fun r1 hr1=>c_ (aG_ rfl) rfl (Zz 2 ?_)
 cases r1
 ·try dsimp only[Con.kind,Con.parts,Con.name,Con.lo,Con.hi,Con.cap,Con.ad]at hr1
  refine Zz 7 ?_
  exact E_ T_ () (O_ rfl (by unfold Ax.check;simp_all)) (.refl _) zt
 try dsimp only[Con.kind,Con.parts,Con.name,Con.lo,Con.hi,Con.cap,Con.ad]at hr1
 have hk0:1≤k∧k≤9:=Ax.shaped_kind hr1
 obtain⟨u,hx⟩:∃ u,nj_[k.toNat]? = some u:=⟨_,List.getElem?_eq_getElem (show k.toNat<10 by omega)⟩
 have hus:us k=u:=by simp[us,hx]
 obtain⟨ul,ur,uo,ua,ub,um,un⟩:=u
 refine Zz 7 ?_
 refine c_ (er_ qX_ cg_ rfl rfl (by show (0:Int)≤k;omega) (by show k<(10:Int);omega)) rfl ?_
 refine c_ (L_ (ad:=some ⟨0,0,none⟩) (us:=Use.cells ⟨ul,ur,uo,ua,ub,um,un⟩) vf_ cg_ rfl (fun v _ h=>h.2.1.2.1) (Use.cells_len _) (o_ Use.cells_len hx)) rfl (G_ Tryz.zeroValue150 rfl fun b2=>n_ 0 cg_ rfl rfl rfl rfl rfl rfl (Zz 7 ?_))
 refine af_ (rD_ ⟨k,op,(.mk kl nl ll hl al cl pl),(.mk kr nr lr hr ar cr pr),ad,cap,rs,ro,a,b⟩ hok ⟨ul,ur,uo,ua,ub,um,un⟩) rfl (.refl _) zf rfl fun r2 hr2=>c_ (aG_ rfl) rfl (Zz 2 ?_)
 cases r2
 ·try dsimp only[Con.kind,Con.parts,Con.name,Con.lo,Con.hi,Con.cap,Con.ad]at hr2
  refine Zz 7 ?_
  exact E_ T_ () (O_ rfl (by unfold Ax.check;simp only[hus];simp_all)) (.refl _) zt
 try dsimp only[Con.kind,Con.parts,Con.name,Con.lo,Con.hi,Con.cap,Con.ad]at hr2
 refine Zz 10 ?_
 cases ul
 ·try dsimp only[Con.kind,Con.parts,Con.name,Con.lo,Con.hi,Con.cap,Con.ad]at hul
  refine Zz 10 ?_
  cases ur
  ·try dsimp only[Con.kind,Con.parts,Con.name,Con.lo,Con.hi,Con.cap,Con.ad]at hur
   refine Zi 13 (fun hr3=>?_) fun hr3=>?_
   ·try dsimp only[Con.kind,Con.parts,Con.name,Con.lo,Con.hi,Con.cap,Con.ad]at hr3
    refine Zi 7 (fun hr4=>?_) fun hr4=>?_
    ·try dsimp only[Con.kind,Con.parts,Con.name,Con.lo,Con.hi,Con.cap,Con.ad]at hr4
     refine Zi 6 (fun hr5=>?_) fun hr5=>?_
     ·try dsimp only[Con.kind,Con.parts,Con.name,Con.lo,Con.hi,Con.cap,Con.ad]at hr5
      refine Zi 5 (fun hr6=>?_) fun hr6=>?_
      ·try dsimp only[Con.kind,Con.parts,Con.name,Con.lo,Con.hi,Con.cap,Con.ad]at hr6
       refine Zz 12 ?_
       exact E_ T_ () (O_ rfl (by unfold Ax.check;simp only[hus];simp_all)) (.refl _) zt
      try dsimp only[Con.kind,Con.parts,Con.name,Con.lo,Con.hi,Con.cap,Con.ad]at hr6
      refine Zz 8 ?_
      refine af_ (bP_ _ (.mk kr nr lr hr ar cr pr) (Nat.le_refl _) hok.right) rfl (.refl _) (fun v _ h=>⟨h.1.2.1,trivial⟩) rfl fun r7 hr7=>Zz 2 ?_
      cases r7
      ·try dsimp only[Con.kind,Con.parts,Con.name,Con.lo,Con.hi,Con.cap,Con.ad]at hr7
       refine Zz 9 ?_
       exact E_ T_ () (O_ rfl (by unfold Ax.check;simp only[hus];simp_all)) (.refl _) zt
      try dsimp only[Con.kind,Con.parts,Con.name,Con.lo,Con.hi,Con.cap,Con.ad]at hr7
      refine Zz 7 ?_
      exact E_ T_ () (O_ rfl (by unfold Ax.check;simp only[hus];simp_all)) (.refl _) zt
     try dsimp only[Con.kind,Con.parts,Con.name,Con.lo,Con.hi,Con.cap,Con.ad]at hr5
     refine Zz 11 ?_
     refine af_ (bP_ _ (.mk kr nr lr hr ar cr pr) (Nat.le_refl _) hok.right) rfl (.refl _) (fun v _ h=>⟨h.1.2.1,trivial⟩) rfl fun r8 hr8=>Zz 2 ?_
     cases r8
     ·try dsimp only[Con.kind,Con.parts,Con.name,Con.lo,Con.hi,Con.cap,Con.ad]at hr8
      refine Zz 9 ?_
      exact E_ T_ () (O_ rfl (by unfold Ax.check;simp only[hus];simp_all)) (.refl _) zt
     try dsimp only[Con.kind,Con.parts,Con.name,Con.lo,Con.hi,Con.cap,Con.ad]at hr8
     refine Zz 7 ?_
     exact E_ T_ () (O_ rfl (by unfold Ax.check;simp only[hus];simp_all)) (.refl _) zt
    try dsimp only[Con.kind,Con.parts,Con.name,Con.lo,Con.hi,Con.cap,Con.ad]at hr4
    refine Zz 11 ?_
    refine af_ (bP_ _ (.mk kr nr lr hr ar cr pr) (Nat.le_refl _) hok.right) rfl (.refl _) (fun v _ h=>⟨h.1.2.1,trivial⟩) rfl fun r9 hr9=>Zz 2 ?_
    cases r9
    ·try dsimp only[Con.kind,Con.parts,Con.name,Con.lo,Con.hi,Con.cap,Con.ad]at hr9
     refine Zz 9 ?_
     exact E_ T_ () (O_ rfl (by unfold Ax.check;simp only[hus];simp_all)) (.refl _) zt
    try dsimp only[Con.kind,Con.parts,Con.name,Con.lo,Con.hi,Con.cap,Con.ad]at hr9
    refine Zz 7 ?_
    exact E_ T_ () (O_ rfl (by unfold Ax.check;simp only[hus];simp_all)) (.refl _) zt
   try dsimp only[Con.kind,Con.parts,Con.name,Con.lo,Con.hi,Con.cap,Con.ad]at hr3
   refine Zz 8 ?_
   refine af_ (bP_ _ (.mk kl nl ll hl al cl pl) (Nat.le_refl _) hok.left) rfl (.refl _) (fun v _ h=>⟨h.1.1,trivial⟩) rfl fun r10 hr10=>Zz 1 ?_
   refine aN_ 4 ((Con.bare (.mk kl nl ll hl al cl pl))||(Con.bare (.mk kr nr lr hr ar cr pr))) (fun r=>[(0,.agg #[.int .i64 k,.bool op,.int .i64 kl,str nl,.int .i64 ll,.int .i64 hl,.slice al pl.length cl,.int .i64 kr,str nr,.int .i64 lr,.int .i64 hr,.slice ar pr.length cr,.slice ad rs.length cap,str ro,str a,str b]),(1,zp_ b1 0),(2,.int .i64 0),(6,.agg #[.int .i64 k,.bool op,.int .i64 kl,str nl,.int .i64 ll,.int .i64 hl,.slice al pl.length cl,.int .i64 kr,str nr,.int .i64 lr,.int .i64 hr,.slice ar pr.length cr,.slice ad rs.length cap,str ro,str a,str b]),(7,.bool true),(8,.bool false),(9,zp_ b1 0),(10,.int .i64 k),(11,.pointer (some (rad (some ⟨0,0,none⟩) (k.toNat*7)))),(12,.agg #[.bool false,.bool false,.bool uo,.bool ua,.bool ub,.int .i64 um,.int .i64 un]),(3,zp_ b2 0),(13,.agg #[.int .i64 k,.bool op,.int .i64 kl,str nl,.int .i64 ll,.int .i64 hl,.slice al pl.length cl,.int .i64 kr,str nr,.int .i64 lr,.int .i64 hr,.slice ar pr.length cr,.slice ad rs.length cap,str ro,str a,str b]),(14,.agg #[.bool false,.bool false,.bool uo,.bool ua,.bool ub,.int .i64 um,.int .i64 un]),(15,.bool true),(16,.bool false),(17,zp_ b2 0),(18,.bool false),(25,zp_ b2 1),(26,.bool false),(33,zp_ b1 0),(34,.int .i64 k),(36,.bool true),(35,.bool true),(44,.bool r)]) ?_ fun r11 hr11=>?_
   ·cases r10
    ·have qr11:=hr10
     try dsimp only[Con.kind,Con.parts,Con.name,Con.lo,Con.hi,Con.cap,Con.ad]at hr10
     refine Zz 5 ?_
     refine af_ (bP_ _ (.mk kr nr lr hr ar cr pr) (Nat.le_refl _) hok.right) rfl (.refl _) (fun v _ h=>⟨h.1.2.1,trivial⟩) rfl fun r12 hr12=>Zz 3 ?_
     exact met ⟨rfl,rfl,rfl,rfl,rfl,rfl,rfl,rfl,rfl,rfl,rfl,rfl,rfl,rfl,rfl,rfl,rfl,rfl,rfl,rfl,rfl,rfl,rfl,(m_ rfl (jof qr11 hr12)),trivial⟩
    have qr11:=hr10
    try dsimp only[Con.kind,Con.parts,Con.name,Con.lo,Con.hi,Con.cap,Con.ad]at hr10
    refine Zz 6 ?_
    exact met ⟨rfl,rfl,rfl,rfl,rfl,rfl,rfl,rfl,rfl,rfl,rfl,rfl,rfl,rfl,rfl,rfl,rfl,rfl,rfl,rfl,rfl,rfl,rfl,(m_ rfl (jot qr11)),trivial⟩
   refine Zz 2 ?_
   cases r11
   ·simp at hr11
    try dsimp only[Con.kind,Con.parts,Con.name,Con.lo,Con.hi,Con.cap,Con.ad]at hr11
    refine Zz 9 ?_
    exact E_ T_ () (O_ rfl (by unfold Ax.check;simp only[hus];simp_all)) (.refl _) zt
   simp at hr11
   try dsimp only[Con.kind,Con.parts,Con.name,Con.lo,Con.hi,Con.cap,Con.ad]at hr11
   refine Zz 7 ?_
   exact E_ T_ () (O_ rfl (by unfold Ax.check;simp only[hus];simp_all)) (.refl _) zt
  try dsimp only[Con.kind,Con.parts,Con.name,Con.lo,Con.hi,Con.cap,Con.ad]at hur
  refine Zz 5 ?_
  refine d_ (el_ (.mk kr nr lr hr ar cr pr) hok.right) rfl (.refl _) (fun v _ h=>⟨h.1.2.1,h.2.1,trivial⟩) rfl fun _=>Zi 6 (fun hr13=>?_) fun hr13=>?_
  ·try dsimp only[Con.kind,Con.parts,Con.name,Con.lo,Con.hi,Con.cap,Con.ad]at hr13
   refine Zi 15 (fun hr14=>?_) fun hr14=>?_
   ·try dsimp only[Con.kind,Con.parts,Con.name,Con.lo,Con.hi,Con.cap,Con.ad]at hr14
    refine Zi 7 (fun hr15=>?_) fun hr15=>?_
    ·try dsimp only[Con.kind,Con.parts,Con.name,Con.lo,Con.hi,Con.cap,Con.ad]at hr15
     refine Zi 6 (fun hr16=>?_) fun hr16=>?_
     ·try dsimp only[Con.kind,Con.parts,Con.name,Con.lo,Con.hi,Con.cap,Con.ad]at hr16
      refine Zi 5 (fun hr17=>?_) fun hr17=>?_
      ·try dsimp only[Con.kind,Con.parts,Con.name,Con.lo,Con.hi,Con.cap,Con.ad]at hr17
       refine Zz 12 ?_
       exact E_ T_ () (O_ rfl (by unfold Ax.check;simp only[hus];simp_all)) (.refl _) zt
      try dsimp only[Con.kind,Con.parts,Con.name,Con.lo,Con.hi,Con.cap,Con.ad]at hr17
      refine Zz 8 ?_
      refine af_ (bP_ _ (.mk kr nr lr hr ar cr pr) (Nat.le_refl _) hok.right) rfl (.refl _) (fun v _ h=>⟨h.1.2.1,trivial⟩) rfl fun r18 hr18=>Zz 2 ?_
      cases r18
      ·try dsimp only[Con.kind,Con.parts,Con.name,Con.lo,Con.hi,Con.cap,Con.ad]at hr18
       refine Zz 9 ?_
       exact E_ T_ () (O_ rfl (by unfold Ax.check;simp only[hus];simp_all)) (.refl _) zt
      try dsimp only[Con.kind,Con.parts,Con.name,Con.lo,Con.hi,Con.cap,Con.ad]at hr18
      refine Zz 7 ?_
      exact E_ T_ () (O_ rfl (by unfold Ax.check;simp only[hus];simp_all)) (.refl _) zt
     try dsimp only[Con.kind,Con.parts,Con.name,Con.lo,Con.hi,Con.cap,Con.ad]at hr16
     refine Zz 11 ?_
     refine af_ (bP_ _ (.mk kr nr lr hr ar cr pr) (Nat.le_refl _) hok.right) rfl (.refl _) (fun v _ h=>⟨h.1.2.1,trivial⟩) rfl fun r19 hr19=>Zz 2 ?_
     cases r19
     ·try dsimp only[Con.kind,Con.parts,Con.name,Con.lo,Con.hi,Con.cap,Con.ad]at hr19
      refine Zz 9 ?_
      exact E_ T_ () (O_ rfl (by unfold Ax.check;simp only[hus];simp_all)) (.refl _) zt
     try dsimp only[Con.kind,Con.parts,Con.name,Con.lo,Con.hi,Con.cap,Con.ad]at hr19
     refine Zz 7 ?_
     exact E_ T_ () (O_ rfl (by unfold Ax.check;simp only[hus];simp_all)) (.refl _) zt
    try dsimp only[Con.kind,Con.parts,Con.name,Con.lo,Con.hi,Con.cap,Con.ad]at hr15
    refine Zz 11 ?_
    refine af_ (bP_ _ (.mk kr nr lr hr ar cr pr) (Nat.le_refl _) hok.right) rfl (.refl _) (fun v _ h=>⟨h.1.2.1,trivial⟩) rfl fun r20 hr20=>Zz 2 ?_
    cases r20
    ·try dsimp only[Con.kind,Con.parts,Con.name,Con.lo,Con.hi,Con.cap,Con.ad]at hr20
     refine Zz 9 ?_
     exact E_ T_ () (O_ rfl (by unfold Ax.check;simp only[hus];simp_all)) (.refl _) zt
    try dsimp only[Con.kind,Con.parts,Con.name,Con.lo,Con.hi,Con.cap,Con.ad]at hr20
    refine Zz 7 ?_
    exact E_ T_ () (O_ rfl (by unfold Ax.check;simp only[hus];simp_all)) (.refl _) zt
   try dsimp only[Con.kind,Con.parts,Con.name,Con.lo,Con.hi,Con.cap,Con.ad]at hr14
   refine Zz 8 ?_
   refine af_ (bP_ _ (.mk kl nl ll hl al cl pl) (Nat.le_refl _) hok.left) rfl (.refl _) (fun v _ h=>⟨h.1.1,trivial⟩) rfl fun r21 hr21=>Zz 1 ?_
   refine aN_ 4 ((Con.bare (.mk kl nl ll hl al cl pl))||(Con.bare (.mk kr nr lr hr ar cr pr))) (fun r=>[(0,.agg #[.int .i64 k,.bool op,.int .i64 kl,str nl,.int .i64 ll,.int .i64 hl,.slice al pl.length cl,.int .i64 kr,str nr,.int .i64 lr,.int .i64 hr,.slice ar pr.length cr,.slice ad rs.length cap,str ro,str a,str b]),(1,zp_ b1 0),(2,.int .i64 0),(6,.agg #[.int .i64 k,.bool op,.int .i64 kl,str nl,.int .i64 ll,.int .i64 hl,.slice al pl.length cl,.int .i64 kr,str nr,.int .i64 lr,.int .i64 hr,.slice ar pr.length cr,.slice ad rs.length cap,str ro,str a,str b]),(7,.bool true),(8,.bool false),(9,zp_ b1 0),(10,.int .i64 k),(11,.pointer (some (rad (some ⟨0,0,none⟩) (k.toNat*7)))),(12,.agg #[.bool false,.bool true,.bool uo,.bool ua,.bool ub,.int .i64 um,.int .i64 un]),(3,zp_ b2 0),(13,.agg #[.int .i64 k,.bool op,.int .i64 kl,str nl,.int .i64 ll,.int .i64 hl,.slice al pl.length cl,.int .i64 kr,str nr,.int .i64 lr,.int .i64 hr,.slice ar pr.length cr,.slice ad rs.length cap,str ro,str a,str b]),(14,.agg #[.bool false,.bool true,.bool uo,.bool ua,.bool ub,.int .i64 um,.int .i64 un]),(15,.bool true),(16,.bool false),(17,zp_ b2 0),(18,.bool false),(25,zp_ b2 1),(26,.bool true),(27,zp_ b1 7),(28,.agg #[.int .i64 kr,str nr,.int .i64 lr,.int .i64 hr,.slice ar pr.length cr]),(29,.int .i64 (Con.check (.mk kr nr lr hr ar cr pr))),(5,.int .i64 (Con.check (.mk kr nr lr hr ar cr pr))),(30,.int .i64 (Con.check (.mk kr nr lr hr ar cr pr))),(31,.bool false),(33,zp_ b1 0),(34,.int .i64 k),(36,.bool true),(35,.bool true),(44,.bool r)]) ?_ fun r22 hr22=>?_
   ·cases r21
    ·have qr22:=hr21
     try dsimp only[Con.kind,Con.parts,Con.name,Con.lo,Con.hi,Con.cap,Con.ad]at hr21
     refine Zz 5 ?_
     refine af_ (bP_ _ (.mk kr nr lr hr ar cr pr) (Nat.le_refl _) hok.right) rfl (.refl _) (fun v _ h=>⟨h.1.2.1,trivial⟩) rfl fun r23 hr23=>Zz 3 ?_
     exact met ⟨rfl,rfl,rfl,rfl,rfl,rfl,rfl,rfl,rfl,rfl,rfl,rfl,rfl,rfl,rfl,rfl,rfl,rfl,rfl,rfl,rfl,rfl,rfl,rfl,rfl,rfl,rfl,rfl,rfl,(m_ rfl (jof qr22 hr23)),trivial⟩
    have qr22:=hr21
    try dsimp only[Con.kind,Con.parts,Con.name,Con.lo,Con.hi,Con.cap,Con.ad]at hr21
    refine Zz 6 ?_
    exact met ⟨rfl,rfl,rfl,rfl,rfl,rfl,rfl,rfl,rfl,rfl,rfl,rfl,rfl,rfl,rfl,rfl,rfl,rfl,rfl,rfl,rfl,rfl,rfl,rfl,rfl,rfl,rfl,rfl,rfl,(m_ rfl (jot qr22)),trivial⟩
   refine Zz 2 ?_
   cases r22
   ·simp at hr22
    try dsimp only[Con.kind,Con.parts,Con.name,Con.lo,Con.hi,Con.cap,Con.ad]at hr22
    refine Zz 9 ?_
    exact E_ T_ () (O_ rfl (by unfold Ax.check;simp only[hus];simp_all)) (.refl _) zt
   simp at hr22
   try dsimp only[Con.kind,Con.parts,Con.name,Con.lo,Con.hi,Con.cap,Con.ad]at hr22
   refine Zz 7 ?_
   exact E_ T_ () (O_ rfl (by unfold Ax.check;simp only[hus];simp_all)) (.refl _) zt
  try dsimp only[Con.kind,Con.parts,Con.name,Con.lo,Con.hi,Con.cap,Con.ad]at hr13
  refine Zz 10 ?_
  exact E_ T_ () (O_ rfl (by unfold Ax.check;simp only[hus];simp_all)) (.refl _) zt
 try dsimp only[Con.kind,Con.parts,Con.name,Con.lo,Con.hi,Con.cap,Con.ad]at hul
 refine Zz 5 ?_
 refine d_ (el_ (.mk kl nl ll hl al cl pl) hok.left) rfl (.refl _) (fun v _ h=>⟨h.1.1,h.2.1,trivial⟩) rfl fun _=>Zi 6 (fun hr24=>?_) fun hr24=>?_
 ·try dsimp only[Con.kind,Con.parts,Con.name,Con.lo,Con.hi,Con.cap,Con.ad]at hr24
  refine Zz 12 ?_
  cases ur
  ·try dsimp only[Con.kind,Con.parts,Con.name,Con.lo,Con.hi,Con.cap,Con.ad]at hur
   refine Zi 13 (fun hr25=>?_) fun hr25=>?_
   ·try dsimp only[Con.kind,Con.parts,Con.name,Con.lo,Con.hi,Con.cap,Con.ad]at hr25
    refine Zi 7 (fun hr26=>?_) fun hr26=>?_
    ·try dsimp only[Con.kind,Con.parts,Con.name,Con.lo,Con.hi,Con.cap,Con.ad]at hr26
     refine Zi 6 (fun hr27=>?_) fun hr27=>?_
     ·try dsimp only[Con.kind,Con.parts,Con.name,Con.lo,Con.hi,Con.cap,Con.ad]at hr27
      refine Zi 5 (fun hr28=>?_) fun hr28=>?_
      ·try dsimp only[Con.kind,Con.parts,Con.name,Con.lo,Con.hi,Con.cap,Con.ad]at hr28
       refine Zz 12 ?_
       exact E_ T_ () (O_ rfl (by unfold Ax.check;simp only[hus];simp_all)) (.refl _) zt
      try dsimp only[Con.kind,Con.parts,Con.name,Con.lo,Con.hi,Con.cap,Con.ad]at hr28
      refine Zz 8 ?_
      refine af_ (bP_ _ (.mk kr nr lr hr ar cr pr) (Nat.le_refl _) hok.right) rfl (.refl _) (fun v _ h=>⟨h.1.2.1,trivial⟩) rfl fun r29 hr29=>Zz 2 ?_
      cases r29
      ·try dsimp only[Con.kind,Con.parts,Con.name,Con.lo,Con.hi,Con.cap,Con.ad]at hr29
       refine Zz 9 ?_
       exact E_ T_ () (O_ rfl (by unfold Ax.check;simp only[hus];simp_all)) (.refl _) zt
      try dsimp only[Con.kind,Con.parts,Con.name,Con.lo,Con.hi,Con.cap,Con.ad]at hr29
      refine Zz 7 ?_
      exact E_ T_ () (O_ rfl (by unfold Ax.check;simp only[hus];simp_all)) (.refl _) zt
     try dsimp only[Con.kind,Con.parts,Con.name,Con.lo,Con.hi,Con.cap,Con.ad]at hr27
     refine Zz 11 ?_
     refine af_ (bP_ _ (.mk kr nr lr hr ar cr pr) (Nat.le_refl _) hok.right) rfl (.refl _) (fun v _ h=>⟨h.1.2.1,trivial⟩) rfl fun r30 hr30=>Zz 2 ?_
     cases r30
     ·try dsimp only[Con.kind,Con.parts,Con.name,Con.lo,Con.hi,Con.cap,Con.ad]at hr30
      refine Zz 9 ?_
      exact E_ T_ () (O_ rfl (by unfold Ax.check;simp only[hus];simp_all)) (.refl _) zt
     try dsimp only[Con.kind,Con.parts,Con.name,Con.lo,Con.hi,Con.cap,Con.ad]at hr30
     refine Zz 7 ?_
     exact E_ T_ () (O_ rfl (by unfold Ax.check;simp only[hus];simp_all)) (.refl _) zt
    try dsimp only[Con.kind,Con.parts,Con.name,Con.lo,Con.hi,Con.cap,Con.ad]at hr26
    refine Zz 11 ?_
    refine af_ (bP_ _ (.mk kr nr lr hr ar cr pr) (Nat.le_refl _) hok.right) rfl (.refl _) (fun v _ h=>⟨h.1.2.1,trivial⟩) rfl fun r31 hr31=>Zz 2 ?_
    cases r31
    ·try dsimp only[Con.kind,Con.parts,Con.name,Con.lo,Con.hi,Con.cap,Con.ad]at hr31
     refine Zz 9 ?_
     exact E_ T_ () (O_ rfl (by unfold Ax.check;simp only[hus];simp_all)) (.refl _) zt
    try dsimp only[Con.kind,Con.parts,Con.name,Con.lo,Con.hi,Con.cap,Con.ad]at hr31
    refine Zz 7 ?_
    exact E_ T_ () (O_ rfl (by unfold Ax.check;simp only[hus];simp_all)) (.refl _) zt
   try dsimp only[Con.kind,Con.parts,Con.name,Con.lo,Con.hi,Con.cap,Con.ad]at hr25
   refine Zz 8 ?_
   refine af_ (bP_ _ (.mk kl nl ll hl al cl pl) (Nat.le_refl _) hok.left) rfl (.refl _) (fun v _ h=>⟨h.1.1,trivial⟩) rfl fun r32 hr32=>Zz 1 ?_
   refine aN_ 4 ((Con.bare (.mk kl nl ll hl al cl pl))||(Con.bare (.mk kr nr lr hr ar cr pr))) (fun r=>[(0,.agg #[.int .i64 k,.bool op,.int .i64 kl,str nl,.int .i64 ll,.int .i64 hl,.slice al pl.length cl,.int .i64 kr,str nr,.int .i64 lr,.int .i64 hr,.slice ar pr.length cr,.slice ad rs.length cap,str ro,str a,str b]),(1,zp_ b1 0),(2,.int .i64 0),(6,.agg #[.int .i64 k,.bool op,.int .i64 kl,str nl,.int .i64 ll,.int .i64 hl,.slice al pl.length cl,.int .i64 kr,str nr,.int .i64 lr,.int .i64 hr,.slice ar pr.length cr,.slice ad rs.length cap,str ro,str a,str b]),(7,.bool true),(8,.bool false),(9,zp_ b1 0),(10,.int .i64 k),(11,.pointer (some (rad (some ⟨0,0,none⟩) (k.toNat*7)))),(12,.agg #[.bool true,.bool false,.bool uo,.bool ua,.bool ub,.int .i64 um,.int .i64 un]),(3,zp_ b2 0),(13,.agg #[.int .i64 k,.bool op,.int .i64 kl,str nl,.int .i64 ll,.int .i64 hl,.slice al pl.length cl,.int .i64 kr,str nr,.int .i64 lr,.int .i64 hr,.slice ar pr.length cr,.slice ad rs.length cap,str ro,str a,str b]),(14,.agg #[.bool true,.bool false,.bool uo,.bool ua,.bool ub,.int .i64 um,.int .i64 un]),(15,.bool true),(16,.bool false),(17,zp_ b2 0),(18,.bool true),(19,zp_ b1 2),(20,.agg #[.int .i64 kl,str nl,.int .i64 ll,.int .i64 hl,.slice al pl.length cl]),(21,.int .i64 (Con.check (.mk kl nl ll hl al cl pl))),(4,.int .i64 (Con.check (.mk kl nl ll hl al cl pl))),(22,.int .i64 (Con.check (.mk kl nl ll hl al cl pl))),(23,.bool false),(25,zp_ b2 1),(26,.bool false),(33,zp_ b1 0),(34,.int .i64 k),(36,.bool true),(35,.bool true),(44,.bool r)]) ?_ fun r33 hr33=>?_
   ·cases r32
    ·have qr33:=hr32
     try dsimp only[Con.kind,Con.parts,Con.name,Con.lo,Con.hi,Con.cap,Con.ad]at hr32
     refine Zz 5 ?_
     refine af_ (bP_ _ (.mk kr nr lr hr ar cr pr) (Nat.le_refl _) hok.right) rfl (.refl _) (fun v _ h=>⟨h.1.2.1,trivial⟩) rfl fun r34 hr34=>Zz 3 ?_
     exact met ⟨rfl,rfl,rfl,rfl,rfl,rfl,rfl,rfl,rfl,rfl,rfl,rfl,rfl,rfl,rfl,rfl,rfl,rfl,rfl,rfl,rfl,rfl,rfl,rfl,rfl,rfl,rfl,rfl,rfl,(m_ rfl (jof qr33 hr34)),trivial⟩
    have qr33:=hr32
    try dsimp only[Con.kind,Con.parts,Con.name,Con.lo,Con.hi,Con.cap,Con.ad]at hr32
    refine Zz 6 ?_
    exact met ⟨rfl,rfl,rfl,rfl,rfl,rfl,rfl,rfl,rfl,rfl,rfl,rfl,rfl,rfl,rfl,rfl,rfl,rfl,rfl,rfl,rfl,rfl,rfl,rfl,rfl,rfl,rfl,rfl,rfl,(m_ rfl (jot qr33)),trivial⟩
   refine Zz 2 ?_
   cases r33
   ·simp at hr33
    try dsimp only[Con.kind,Con.parts,Con.name,Con.lo,Con.hi,Con.cap,Con.ad]at hr33
    refine Zz 9 ?_
    exact E_ T_ () (O_ rfl (by unfold Ax.check;simp only[hus];simp_all)) (.refl _) zt
   simp at hr33
   try dsimp only[Con.kind,Con.parts,Con.name,Con.lo,Con.hi,Con.cap,Con.ad]at hr33
   refine Zz 7 ?_
   exact E_ T_ () (O_ rfl (by unfold Ax.check;simp only[hus];simp_all)) (.refl _) zt
  try dsimp only[Con.kind,Con.parts,Con.name,Con.lo,Con.hi,Con.cap,Con.ad]at hur
  refine Zz 5 ?_
  refine d_ (el_ (.mk kr nr lr hr ar cr pr) hok.right) rfl (.refl _) (fun v _ h=>⟨h.1.2.1,h.2.1,trivial⟩) rfl fun _=>Zi 6 (fun hr35=>?_) fun hr35=>?_
  ·try dsimp only[Con.kind,Con.parts,Con.name,Con.lo,Con.hi,Con.cap,Con.ad]at hr35
   refine Zi 15 (fun hr36=>?_) fun hr36=>?_
   ·try dsimp only[Con.kind,Con.parts,Con.name,Con.lo,Con.hi,Con.cap,Con.ad]at hr36
    refine Zi 7 (fun hr37=>?_) fun hr37=>?_
    ·try dsimp only[Con.kind,Con.parts,Con.name,Con.lo,Con.hi,Con.cap,Con.ad]at hr37
     refine Zi 6 (fun hr38=>?_) fun hr38=>?_
     ·try dsimp only[Con.kind,Con.parts,Con.name,Con.lo,Con.hi,Con.cap,Con.ad]at hr38
      refine Zi 5 (fun hr39=>?_) fun hr39=>?_
      ·try dsimp only[Con.kind,Con.parts,Con.name,Con.lo,Con.hi,Con.cap,Con.ad]at hr39
       refine Zz 12 ?_
       exact E_ T_ () (O_ rfl (by unfold Ax.check;simp only[hus];simp_all)) (.refl _) zt
      try dsimp only[Con.kind,Con.parts,Con.name,Con.lo,Con.hi,Con.cap,Con.ad]at hr39
      refine Zz 8 ?_
      refine af_ (bP_ _ (.mk kr nr lr hr ar cr pr) (Nat.le_refl _) hok.right) rfl (.refl _) (fun v _ h=>⟨h.1.2.1,trivial⟩) rfl fun r40 hr40=>Zz 2 ?_
      cases r40
      ·try dsimp only[Con.kind,Con.parts,Con.name,Con.lo,Con.hi,Con.cap,Con.ad]at hr40
       refine Zz 9 ?_
       exact E_ T_ () (O_ rfl (by unfold Ax.check;simp only[hus];simp_all)) (.refl _) zt
      try dsimp only[Con.kind,Con.parts,Con.name,Con.lo,Con.hi,Con.cap,Con.ad]at hr40
      refine Zz 7 ?_
      exact E_ T_ () (O_ rfl (by unfold Ax.check;simp only[hus];simp_all)) (.refl _) zt
     try dsimp only[Con.kind,Con.parts,Con.name,Con.lo,Con.hi,Con.cap,Con.ad]at hr38
     refine Zz 11 ?_
     refine af_ (bP_ _ (.mk kr nr lr hr ar cr pr) (Nat.le_refl _) hok.right) rfl (.refl _) (fun v _ h=>⟨h.1.2.1,trivial⟩) rfl fun r41 hr41=>Zz 2 ?_
     cases r41
     ·try dsimp only[Con.kind,Con.parts,Con.name,Con.lo,Con.hi,Con.cap,Con.ad]at hr41
      refine Zz 9 ?_
      exact E_ T_ () (O_ rfl (by unfold Ax.check;simp only[hus];simp_all)) (.refl _) zt
     try dsimp only[Con.kind,Con.parts,Con.name,Con.lo,Con.hi,Con.cap,Con.ad]at hr41
     refine Zz 7 ?_
     exact E_ T_ () (O_ rfl (by unfold Ax.check;simp only[hus];simp_all)) (.refl _) zt
    try dsimp only[Con.kind,Con.parts,Con.name,Con.lo,Con.hi,Con.cap,Con.ad]at hr37
    refine Zz 11 ?_
    refine af_ (bP_ _ (.mk kr nr lr hr ar cr pr) (Nat.le_refl _) hok.right) rfl (.refl _) (fun v _ h=>⟨h.1.2.1,trivial⟩) rfl fun r42 hr42=>Zz 2 ?_
    cases r42
    ·try dsimp only[Con.kind,Con.parts,Con.name,Con.lo,Con.hi,Con.cap,Con.ad]at hr42
     refine Zz 9 ?_
     exact E_ T_ () (O_ rfl (by unfold Ax.check;simp only[hus];simp_all)) (.refl _) zt
    try dsimp only[Con.kind,Con.parts,Con.name,Con.lo,Con.hi,Con.cap,Con.ad]at hr42
    refine Zz 7 ?_
    exact E_ T_ () (O_ rfl (by unfold Ax.check;simp only[hus];simp_all)) (.refl _) zt
   try dsimp only[Con.kind,Con.parts,Con.name,Con.lo,Con.hi,Con.cap,Con.ad]at hr36
   refine Zz 8 ?_
   refine af_ (bP_ _ (.mk kl nl ll hl al cl pl) (Nat.le_refl _) hok.left) rfl (.refl _) (fun v _ h=>⟨h.1.1,trivial⟩) rfl fun r43 hr43=>Zz 1 ?_
   refine aN_ 4 ((Con.bare (.mk kl nl ll hl al cl pl))||(Con.bare (.mk kr nr lr hr ar cr pr))) (fun r=>[(0,.agg #[.int .i64 k,.bool op,.int .i64 kl,str nl,.int .i64 ll,.int .i64 hl,.slice al pl.length cl,.int .i64 kr,str nr,.int .i64 lr,.int .i64 hr,.slice ar pr.length cr,.slice ad rs.length cap,str ro,str a,str b]),(1,zp_ b1 0),(2,.int .i64 0),(6,.agg #[.int .i64 k,.bool op,.int .i64 kl,str nl,.int .i64 ll,.int .i64 hl,.slice al pl.length cl,.int .i64 kr,str nr,.int .i64 lr,.int .i64 hr,.slice ar pr.length cr,.slice ad rs.length cap,str ro,str a,str b]),(7,.bool true),(8,.bool false),(9,zp_ b1 0),(10,.int .i64 k),(11,.pointer (some (rad (some ⟨0,0,none⟩) (k.toNat*7)))),(12,.agg #[.bool true,.bool true,.bool uo,.bool ua,.bool ub,.int .i64 um,.int .i64 un]),(3,zp_ b2 0),(13,.agg #[.int .i64 k,.bool op,.int .i64 kl,str nl,.int .i64 ll,.int .i64 hl,.slice al pl.length cl,.int .i64 kr,str nr,.int .i64 lr,.int .i64 hr,.slice ar pr.length cr,.slice ad rs.length cap,str ro,str a,str b]),(14,.agg #[.bool true,.bool true,.bool uo,.bool ua,.bool ub,.int .i64 um,.int .i64 un]),(15,.bool true),(16,.bool false),(17,zp_ b2 0),(18,.bool true),(19,zp_ b1 2),(20,.agg #[.int .i64 kl,str nl,.int .i64 ll,.int .i64 hl,.slice al pl.length cl]),(21,.int .i64 (Con.check (.mk kl nl ll hl al cl pl))),(4,.int .i64 (Con.check (.mk kl nl ll hl al cl pl))),(22,.int .i64 (Con.check (.mk kl nl ll hl al cl pl))),(23,.bool false),(25,zp_ b2 1),(26,.bool true),(27,zp_ b1 7),(28,.agg #[.int .i64 kr,str nr,.int .i64 lr,.int .i64 hr,.slice ar pr.length cr]),(29,.int .i64 (Con.check (.mk kr nr lr hr ar cr pr))),(5,.int .i64 (Con.check (.mk kr nr lr hr ar cr pr))),(30,.int .i64 (Con.check (.mk kr nr lr hr ar cr pr))),(31,.bool false),(33,zp_ b1 0),(34,.int .i64 k),(36,.bool true),(35,.bool true),(44,.bool r)]) ?_ fun r44 hr44=>?_
   ·cases r43
    ·have qr44:=hr43
     try dsimp only[Con.kind,Con.parts,Con.name,Con.lo,Con.hi,Con.cap,Con.ad]at hr43
     refine Zz 5 ?_
     refine af_ (bP_ _ (.mk kr nr lr hr ar cr pr) (Nat.le_refl _) hok.right) rfl (.refl _) (fun v _ h=>⟨h.1.2.1,trivial⟩) rfl fun r45 hr45=>Zz 3 ?_
     exact met ⟨rfl,rfl,rfl,rfl,rfl,rfl,rfl,rfl,rfl,rfl,rfl,rfl,rfl,rfl,rfl,rfl,rfl,rfl,rfl,rfl,rfl,rfl,rfl,rfl,rfl,rfl,rfl,rfl,rfl,rfl,rfl,rfl,rfl,rfl,rfl,(m_ rfl (jof qr44 hr45)),trivial⟩
    have qr44:=hr43
    try dsimp only[Con.kind,Con.parts,Con.name,Con.lo,Con.hi,Con.cap,Con.ad]at hr43
    refine Zz 6 ?_
    exact met ⟨rfl,rfl,rfl,rfl,rfl,rfl,rfl,rfl,rfl,rfl,rfl,rfl,rfl,rfl,rfl,rfl,rfl,rfl,rfl,rfl,rfl,rfl,rfl,rfl,rfl,rfl,rfl,rfl,rfl,rfl,rfl,rfl,rfl,rfl,rfl,(m_ rfl (jot qr44)),trivial⟩
   refine Zz 2 ?_
   cases r44
   ·simp at hr44
    try dsimp only[Con.kind,Con.parts,Con.name,Con.lo,Con.hi,Con.cap,Con.ad]at hr44
    refine Zz 9 ?_
    exact E_ T_ () (O_ rfl (by unfold Ax.check;simp only[hus];simp_all)) (.refl _) zt
   simp at hr44
   try dsimp only[Con.kind,Con.parts,Con.name,Con.lo,Con.hi,Con.cap,Con.ad]at hr44
   refine Zz 7 ?_
   exact E_ T_ () (O_ rfl (by unfold Ax.check;simp only[hus];simp_all)) (.refl _) zt
  try dsimp only[Con.kind,Con.parts,Con.name,Con.lo,Con.hi,Con.cap,Con.ad]at hr35
  refine Zz 10 ?_
  exact E_ T_ () (O_ rfl (by unfold Ax.check;simp only[hus];simp_all)) (.refl _) zt
 try dsimp only[Con.kind,Con.parts,Con.name,Con.lo,Con.hi,Con.cap,Con.ad]at hr24
 refine Zz 10 ?_
 exact E_ T_ () (O_ rfl (by unfold Ax.check;simp only[hus];simp_all)) (.refl _) zt
end Go.Proofs.YtamklbgaipakfaaGreatDoor
