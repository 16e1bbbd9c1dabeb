/-
  Part of the proof of the law ModuleReach over this seat: the small logic, the data, the contracts of functions (no condition).
-/
import Derived.Test.YtamklbgaipakfaaGreatDoorQModuleReach3
import Derived.Test.YtamklbgaipakfaaGreatDoorQModuleReach2
set_option linter.unusedVariables false
set_option linter.unusedSimpArgs false
set_option linter.unusedSectionVars false
set_option maxHeartbeats 1000000
namespace Go.Proofs.YtamklbgaipakfaaGreatDoor
open Go Go.Sx Go.Proofs
attribute [local irreducible] Code.wp wpList wpAnyH
open Go.Vs
theorem kf_ (c:Con) (hok:c.ok):Tri Tryz.prog 205 #[c.val] [] [ck_] (fun _:Unit=>.int .i64 c.fieldErr) (fun _=>[]) (fun _=>[]):=by
 obtain⟨k,nm,lo,hi,ad,cap,ps⟩:=c
 have hlen:=Con.ok_len hok
 simp only[Con.parts,Con.cap]at hlen
 refine o_ Tryz.func205 rfl rfl Tryz.ntmps205 rfl fun v0=>?_
 refine Zz 2 ?_
 refine ah_ rfl rfl fun b1=>Zz 8 ?_
 refine s_ (bR_ rfl rfl) rfl fun r1 hr1=>Zz 1 ?_
 refine as_ 4 ((decide (k<1))||(decide (7<k))) (fun r=>[(0,.agg #[.int .i64 k,str nm,.int .i64 lo,.int .i64 hi,.slice ad ps.length cap]),(1,zp_ b1 0),(2,.int .i64 0),(11,.bool r)]) ?_ fun r2 hr2=>?_
 ·cases r1
  ·have qr2:=hr1
   replace hr1:=zdf hr1
   try dsimp only[Con.kind,Con.parts,Con.name,Con.lo,Con.hi,Con.cap,Con.ad]at hr1
   refine Zz 5 ?_
   refine s_ (dv_ rfl rfl) rfl fun r3 hr3=>Zz 3 ?_
   exact met ⟨rfl,rfl,rfl,(l_ rfl (jof qr2 hr3)),trivial⟩
  have qr2:=hr1
  replace hr1:=zdt hr1
  try dsimp only[Con.kind,Con.parts,Con.name,Con.lo,Con.hi,Con.cap,Con.ad]at hr1
  refine Zz 6 ?_
  exact met ⟨rfl,rfl,rfl,(l_ rfl (jot qr2)),trivial⟩
 refine Zz 2 ?_
 cases r2
 ·simp at hr2
  try dsimp only[Con.kind,Con.parts,Con.name,Con.lo,Con.hi,Con.cap,Con.ad]at hr2
  obtain⟨x,hx⟩:∃ x,cW_[k.toNat]? = some x:=⟨_,List.getElem?_eq_getElem (show k.toNat<8 by omega)⟩
  have hnd:nd k=x:=by simp[nd,hx]
  obtain⟨x1,x2,x3,xb⟩:=x
  refine Zz 7 ?_
  refine c_ (gb_ Tryz.runUnderlying288 Tryz.sizeOf287 rfl rfl (by show (0:Int)≤k;omega) (by show k<(8:Int);omega)) rfl ?_
  refine c_ (al_ (ad:=some ⟨3,0,none⟩) (k:=k.toNat*4) (us:=oK_ (x1,x2,x3,xb)) Tryz.isAgg287 Tryz.sizeOf287 rfl (fun v _ h=>h.1.1) (iv_ _) (fun j y hj=>by rw[jO_ oK_ 4 iv_ cW_ k.toNat j _ hx (by have:=(List.getElem?_eq_some_iff.1 hj).1;rwa [iv_]at this)];exact hj)) rfl ?_
  refine au_ Tryz.zeroValue287 rfl fun b2=>aa_ 0 Tryz.sizeOf287 rfl rfl rfl rfl rfl rfl (Zz 10 ?_)
  refine s_ (bR_ rfl rfl) rfl fun r4 hr4=>Zz 1 ?_
  refine as_ 7 ((decide ((ps.length:Int)<x2))||(decide (x3<(ps.length:Int)))) (fun r=>[(0,.agg #[.int .i64 k,str nm,.int .i64 lo,.int .i64 hi,.slice ad ps.length cap]),(1,zp_ b1 0),(2,.int .i64 0),(11,.bool false),(12,zp_ b1 0),(13,.int .i64 k),(14,.pointer (some (rad (some ⟨3,0,none⟩) (k.toNat*4)))),(15,.agg #[.int .i64 x1,.int .i64 x2,.int .i64 x3,.bool xb]),(3,zp_ b2 0),(29,.bool r)]) ?_ fun r5 hr5=>?_
  ·cases r4
   ·have qr5:=hr4
    replace hr4:=zdf hr4
    try dsimp only[Con.kind,Con.parts,Con.name,Con.lo,Con.hi,Con.cap,Con.ad]at hr4
    refine Zz 11 ?_
    refine s_ (dv_ rfl rfl) rfl fun r6 hr6=>Zz 3 ?_
    exact met ⟨rfl,rfl,rfl,rfl,rfl,rfl,rfl,rfl,rfl,(l_ rfl (jof qr5 hr6)),trivial⟩
   have qr5:=hr4
   replace hr4:=zdt hr4
   try dsimp only[Con.kind,Con.parts,Con.name,Con.lo,Con.hi,Con.cap,Con.ad]at hr4
   refine Zz 9 ?_
   exact met ⟨rfl,rfl,rfl,rfl,rfl,rfl,rfl,rfl,rfl,(l_ rfl (jot qr5)),trivial⟩
  refine Zz 1 ?_
  refine as_ 9 ((((decide ((ps.length:Int)<x2))||(decide (x3<(ps.length:Int)))))||(((x1==0)&&(nm != [])))) (fun r=>[(0,.agg #[.int .i64 k,str nm,.int .i64 lo,.int .i64 hi,.slice ad ps.length cap]),(1,zp_ b1 0),(2,.int .i64 0),(11,.bool false),(12,zp_ b1 0),(13,.int .i64 k),(14,.pointer (some (rad (some ⟨3,0,none⟩) (k.toNat*4)))),(15,.agg #[.int .i64 x1,.int .i64 x2,.int .i64 x3,.bool xb]),(3,zp_ b2 0),(39,.bool r)]) ?_ fun r7 hr7=>?_
  ·cases r5
   ·have qr7:=hr5
    simp at hr5
    try dsimp only[Con.kind,Con.parts,Con.name,Con.lo,Con.hi,Con.cap,Con.ad]at hr5
    refine Zz 5 ?_
    refine s_ (V_ rfl rfl) rfl fun r8 hr8=>Zz 2 ?_
    refine as_ 4 ((x1==0)&&(nm != [])) (fun r=>[(0,.agg #[.int .i64 k,str nm,.int .i64 lo,.int .i64 hi,.slice ad ps.length cap]),(1,zp_ b1 0),(2,.int .i64 0),(11,.bool false),(12,zp_ b1 0),(13,.int .i64 k),(14,.pointer (some (rad (some ⟨3,0,none⟩) (k.toNat*4)))),(15,.agg #[.int .i64 x1,.int .i64 x2,.int .i64 x3,.bool xb]),(3,zp_ b2 0),(30,.bool false),(38,.bool r)]) ?_ fun r9 hr9=>?_
    ·cases r8
     ·have qr9:=hr8
      replace hr8:=znb hr8
      try dsimp only[Con.kind,Con.parts,Con.name,Con.lo,Con.hi,Con.cap,Con.ad]at hr8
      refine Zz 7 ?_
      exact met ⟨rfl,rfl,rfl,rfl,rfl,rfl,rfl,rfl,rfl,rfl,(l_ rfl (jaf qr9)),trivial⟩
     have qr9:=hr8
     replace hr8:=zeb hr8
     try dsimp only[Con.kind,Con.parts,Con.name,Con.lo,Con.hi,Con.cap,Con.ad]at hr8
     refine Zz 5 ?_
     refine s_ (dJ_ rfl rfl) rfl fun r10 hr10=>Zz 4 ?_
     exact met ⟨rfl,rfl,rfl,rfl,rfl,rfl,rfl,rfl,rfl,rfl,(l_ rfl (jat qr9 hr10)),trivial⟩
    refine Zz 3 ?_
    exact met ⟨rfl,rfl,rfl,rfl,rfl,rfl,rfl,rfl,rfl,(l_ rfl (jof qr7 hr9)),trivial⟩
   have qr7:=hr5
   simp at hr5
   try dsimp only[Con.kind,Con.parts,Con.name,Con.lo,Con.hi,Con.cap,Con.ad]at hr5
   refine Zz 11 ?_
   exact met ⟨rfl,rfl,rfl,rfl,rfl,rfl,rfl,rfl,rfl,(l_ rfl (jot qr7)),trivial⟩
  refine Zz 2 ?_
  cases r7
  ·simp at hr7
   try dsimp only[Con.kind,Con.parts,Con.name,Con.lo,Con.hi,Con.cap,Con.ad]at hr7
   refine Zz 10 ?_
   cases xb
   ·try dsimp only[Con.kind,Con.parts,Con.name,Con.lo,Con.hi,Con.cap,Con.ad]at hxb
    refine Zz 5 ?_
    refine s_ (bU_ rfl rfl) rfl fun r11 hr11=>Zz 1 ?_
    refine as_ 4 ((lo != 0)||(hi != 0)) (fun r=>[(0,.agg #[.int .i64 k,str nm,.int .i64 lo,.int .i64 hi,.slice ad ps.length cap]),(1,zp_ b1 0),(2,.int .i64 0),(11,.bool false),(12,zp_ b1 0),(13,.int .i64 k),(14,.pointer (some (rad (some ⟨3,0,none⟩) (k.toNat*4)))),(15,.agg #[.int .i64 x1,.int .i64 x2,.int .i64 x3,.bool false]),(3,zp_ b2 0),(39,.bool false),(40,zp_ b2 3),(41,.bool false),(64,.bool r)]) ?_ fun r12 hr12=>?_
    ·cases r11
     ·have qr12:=hr11
      replace hr11:=cy_ hr11
      try dsimp only[Con.kind,Con.parts,Con.name,Con.lo,Con.hi,Con.cap,Con.ad]at hr11
      refine Zz 5 ?_
      refine s_ (bU_ rfl rfl) rfl fun r13 hr13=>Zz 3 ?_
      exact met ⟨rfl,rfl,rfl,rfl,rfl,rfl,rfl,rfl,rfl,rfl,rfl,rfl,(l_ rfl (jof qr12 hr13)),trivial⟩
     have qr12:=hr11
     replace hr11:=cw_ hr11
     try dsimp only[Con.kind,Con.parts,Con.name,Con.lo,Con.hi,Con.cap,Con.ad]at hr11
     refine Zz 6 ?_
     exact met ⟨rfl,rfl,rfl,rfl,rfl,rfl,rfl,rfl,rfl,rfl,rfl,rfl,(l_ rfl (jot qr12)),trivial⟩
    refine Zz 2 ?_
    cases r12
    ·simp at hr12
     try dsimp only[Con.kind,Con.parts,Con.name,Con.lo,Con.hi,Con.cap,Con.ad]at hr12
     refine Zz 8 ?_
     refine s_ (V_ rfl rfl) rfl fun r14 hr14=>Zz 1 ?_
     refine as_ 4 ((x1==0)||(bn_ nm)) (fun r=>[(0,.agg #[.int .i64 k,str nm,.int .i64 lo,.int .i64 hi,.slice ad ps.length cap]),(1,zp_ b1 0),(2,.int .i64 0),(11,.bool false),(12,zp_ b1 0),(13,.int .i64 k),(14,.pointer (some (rad (some ⟨3,0,none⟩) (k.toNat*4)))),(15,.agg #[.int .i64 x1,.int .i64 x2,.int .i64 x3,.bool false]),(3,zp_ b2 0),(39,.bool false),(40,zp_ b2 3),(41,.bool false),(64,.bool false),(72,.bool r)]) ?_ fun r15 hr15=>?_
     ·cases r14
      ·have qr15:=hr14
       replace hr14:=znb hr14
       try dsimp only[Con.kind,Con.parts,Con.name,Con.lo,Con.hi,Con.cap,Con.ad]at hr14
       refine Zz 5 ?_
       refine N_ (fS_ nm) rfl (.refl _) zt rfl fun r16 hr16=>Zz 3 ?_
       exact met ⟨rfl,rfl,rfl,rfl,rfl,rfl,rfl,rfl,rfl,rfl,rfl,rfl,rfl,(l_ rfl (jof qr15 hr16)),trivial⟩
      have qr15:=hr14
      replace hr14:=zeb hr14
      try dsimp only[Con.kind,Con.parts,Con.name,Con.lo,Con.hi,Con.cap,Con.ad]at hr14
      refine Zz 6 ?_
      exact met ⟨rfl,rfl,rfl,rfl,rfl,rfl,rfl,rfl,rfl,rfl,rfl,rfl,rfl,(l_ rfl (jot qr15)),trivial⟩
     refine Zz 1 ?_
     refine as_ 9 ((((x1==0)||(bn_ nm)))||(((x1==2)&&(bG_ nm)))) (fun r=>[(0,.agg #[.int .i64 k,str nm,.int .i64 lo,.int .i64 hi,.slice ad ps.length cap]),(1,zp_ b1 0),(2,.int .i64 0),(11,.bool false),(12,zp_ b1 0),(13,.int .i64 k),(14,.pointer (some (rad (some ⟨3,0,none⟩) (k.toNat*4)))),(15,.agg #[.int .i64 x1,.int .i64 x2,.int .i64 x3,.bool false]),(3,zp_ b2 0),(39,.bool false),(40,zp_ b2 3),(41,.bool false),(64,.bool false),(82,.bool r)]) ?_ fun r17 hr17=>?_
     ·cases r15
      ·have qr17:=hr15
       simp at hr15
       try dsimp only[Con.kind,Con.parts,Con.name,Con.lo,Con.hi,Con.cap,Con.ad]at hr15
       refine Zz 5 ?_
       refine s_ (V_ rfl rfl) rfl fun r18 hr18=>Zz 2 ?_
       refine as_ 4 ((x1==2)&&(bG_ nm)) (fun r=>[(0,.agg #[.int .i64 k,str nm,.int .i64 lo,.int .i64 hi,.slice ad ps.length cap]),(1,zp_ b1 0),(2,.int .i64 0),(11,.bool false),(12,zp_ b1 0),(13,.int .i64 k),(14,.pointer (some (rad (some ⟨3,0,none⟩) (k.toNat*4)))),(15,.agg #[.int .i64 x1,.int .i64 x2,.int .i64 x3,.bool false]),(3,zp_ b2 0),(39,.bool false),(40,zp_ b2 3),(41,.bool false),(64,.bool false),(73,.bool false),(81,.bool r)]) ?_ fun r19 hr19=>?_
       ·cases r18
        ·have qr19:=hr18
         replace hr18:=znb hr18
         try dsimp only[Con.kind,Con.parts,Con.name,Con.lo,Con.hi,Con.cap,Con.ad]at hr18
         refine Zz 7 ?_
         exact met ⟨rfl,rfl,rfl,rfl,rfl,rfl,rfl,rfl,rfl,rfl,rfl,rfl,rfl,rfl,(l_ rfl (jaf qr19)),trivial⟩
        have qr19:=hr18
        replace hr18:=zeb hr18
        try dsimp only[Con.kind,Con.parts,Con.name,Con.lo,Con.hi,Con.cap,Con.ad]at hr18
        refine Zz 5 ?_
        refine N_ (gn_ nm (Con.ok_name hok)) rfl (.refl _) zt rfl fun r20 hr20=>Zz 4 ?_
        exact met ⟨rfl,rfl,rfl,rfl,rfl,rfl,rfl,rfl,rfl,rfl,rfl,rfl,rfl,rfl,(l_ rfl (jat qr19 hr20)),trivial⟩
       refine Zz 3 ?_
       exact met ⟨rfl,rfl,rfl,rfl,rfl,rfl,rfl,rfl,rfl,rfl,rfl,rfl,rfl,(l_ rfl (jof qr17 hr19)),trivial⟩
      have qr17:=hr15
      simp at hr15
      try dsimp only[Con.kind,Con.parts,Con.name,Con.lo,Con.hi,Con.cap,Con.ad]at hr15
      refine Zz 11 ?_
      exact met ⟨rfl,rfl,rfl,rfl,rfl,rfl,rfl,rfl,rfl,rfl,rfl,rfl,rfl,(l_ rfl (jot qr17)),trivial⟩
     refine Zz 2 ?_
     cases r17
     ·simp at hr17
      try dsimp only[Con.kind,Con.parts,Con.name,Con.lo,Con.hi,Con.cap,Con.ad]at hr17
      refine Zz 9 ?_
      exact G_ eT_ () (Y_ rfl (by unfold Con.fieldErr;simp only[Con.kind,Con.parts,Con.name,Con.lo,Con.hi];simp only[hnd];repeat (first|rfl|exact (if_pos (by omega)).symm|(rw[if_pos (by first|omega|(simp_all;done)|(simp_all;omega)|grind)];first|done|rfl)|(rw[if_neg (by first|omega|(simp_all;done)|(simp_all;omega)|grind)])))) (.refl _) zt
     simp at hr17
     try dsimp only[Con.kind,Con.parts,Con.name,Con.lo,Con.hi,Con.cap,Con.ad]at hr17
     refine Zz 7 ?_
     exact G_ eT_ () (Y_ rfl (by unfold Con.fieldErr;simp only[Con.kind,Con.parts,Con.name,Con.lo,Con.hi];simp only[hnd];repeat (first|rfl|exact (if_pos (by omega)).symm|(rw[if_pos (by first|omega|(simp_all;done)|(simp_all;omega)|grind)];first|done|rfl)|(rw[if_neg (by first|omega|(simp_all;done)|(simp_all;omega)|grind)])))) (.refl _) zt
    simp at hr12
    try dsimp only[Con.kind,Con.parts,Con.name,Con.lo,Con.hi,Con.cap,Con.ad]at hr12
    refine Zz 7 ?_
    exact G_ eT_ () (Y_ rfl (by unfold Con.fieldErr;simp only[Con.kind,Con.parts,Con.name,Con.lo,Con.hi];simp only[hnd];repeat (first|rfl|exact (if_pos (by omega)).symm|(rw[if_pos (by first|omega|(simp_all;done)|(simp_all;omega)|grind)];first|done|rfl)|(rw[if_neg (by first|omega|(simp_all;done)|(simp_all;omega)|grind)])))) (.refl _) zt
   try dsimp only[Con.kind,Con.parts,Con.name,Con.lo,Con.hi,Con.cap,Con.ad]at hxb
   refine Zz 5 ?_
   refine s_ (bR_ rfl rfl) rfl fun r21 hr21=>Zz 1 ?_
   refine as_ 6 ((decide (lo<(-1099511627776)))||(decide (hi<lo))) (fun r=>[(0,.agg #[.int .i64 k,str nm,.int .i64 lo,.int .i64 hi,.slice ad ps.length cap]),(1,zp_ b1 0),(2,.int .i64 0),(11,.bool false),(12,zp_ b1 0),(13,.int .i64 k),(14,.pointer (some (rad (some ⟨3,0,none⟩) (k.toNat*4)))),(15,.agg #[.int .i64 x1,.int .i64 x2,.int .i64 x3,.bool true]),(3,zp_ b2 0),(39,.bool false),(40,zp_ b2 3),(41,.bool true),(51,.bool r)]) ?_ fun r22 hr22=>?_
   ·cases r21
    ·have qr22:=hr21
     replace hr21:=zdf hr21
     try dsimp only[Con.kind,Con.parts,Con.name,Con.lo,Con.hi,Con.cap,Con.ad]at hr21
     refine Zz 9 ?_
     refine s_ (dv_ rfl rfl) rfl fun r23 hr23=>Zz 3 ?_
     exact met ⟨rfl,rfl,rfl,rfl,rfl,rfl,rfl,rfl,rfl,rfl,rfl,rfl,(l_ rfl (jof qr22 hr23)),trivial⟩
    have qr22:=hr21
    replace hr21:=zdt hr21
    try dsimp only[Con.kind,Con.parts,Con.name,Con.lo,Con.hi,Con.cap,Con.ad]at hr21
    refine Zz 8 ?_
    exact met ⟨rfl,rfl,rfl,rfl,rfl,rfl,rfl,rfl,rfl,rfl,rfl,rfl,(l_ rfl (jot qr22)),trivial⟩
   refine Zz 1 ?_
   refine as_ 4 ((((decide (lo<(-1099511627776)))||(decide (hi<lo))))||(decide (1099511627776<hi))) (fun r=>[(0,.agg #[.int .i64 k,str nm,.int .i64 lo,.int .i64 hi,.slice ad ps.length cap]),(1,zp_ b1 0),(2,.int .i64 0),(11,.bool false),(12,zp_ b1 0),(13,.int .i64 k),(14,.pointer (some (rad (some ⟨3,0,none⟩) (k.toNat*4)))),(15,.agg #[.int .i64 x1,.int .i64 x2,.int .i64 x3,.bool true]),(3,zp_ b2 0),(39,.bool false),(40,zp_ b2 3),(41,.bool true),(56,.bool r)]) ?_ fun r24 hr24=>?_
   ·cases r22
    ·have qr24:=hr22
     simp at hr22
     try dsimp only[Con.kind,Con.parts,Con.name,Con.lo,Con.hi,Con.cap,Con.ad]at hr22
     refine Zz 5 ?_
     refine s_ (dv_ rfl rfl) rfl fun r25 hr25=>Zz 3 ?_
     exact met ⟨rfl,rfl,rfl,rfl,rfl,rfl,rfl,rfl,rfl,rfl,rfl,rfl,(l_ rfl (jof qr24 hr25)),trivial⟩
    have qr24:=hr22
    simp at hr22
    try dsimp only[Con.kind,Con.parts,Con.name,Con.lo,Con.hi,Con.cap,Con.ad]at hr22
    refine Zz 6 ?_
    exact met ⟨rfl,rfl,rfl,rfl,rfl,rfl,rfl,rfl,rfl,rfl,rfl,rfl,(l_ rfl (jot qr24)),trivial⟩
   refine Zz 2 ?_
   cases r24
   ·simp at hr24
    try dsimp only[Con.kind,Con.parts,Con.name,Con.lo,Con.hi,Con.cap,Con.ad]at hr24
    refine Zz 8 ?_
    refine s_ (V_ rfl rfl) rfl fun r26 hr26=>Zz 1 ?_
    refine as_ 4 ((x1==0)||(bn_ nm)) (fun r=>[(0,.agg #[.int .i64 k,str nm,.int .i64 lo,.int .i64 hi,.slice ad ps.length cap]),(1,zp_ b1 0),(2,.int .i64 0),(11,.bool false),(12,zp_ b1 0),(13,.int .i64 k),(14,.pointer (some (rad (some ⟨3,0,none⟩) (k.toNat*4)))),(15,.agg #[.int .i64 x1,.int .i64 x2,.int .i64 x3,.bool true]),(3,zp_ b2 0),(39,.bool false),(40,zp_ b2 3),(41,.bool true),(56,.bool false),(72,.bool r)]) ?_ fun r27 hr27=>?_
    ·cases r26
     ·have qr27:=hr26
      replace hr26:=znb hr26
      try dsimp only[Con.kind,Con.parts,Con.name,Con.lo,Con.hi,Con.cap,Con.ad]at hr26
      refine Zz 5 ?_
      refine N_ (fS_ nm) rfl (.refl _) zt rfl fun r28 hr28=>Zz 3 ?_
      exact met ⟨rfl,rfl,rfl,rfl,rfl,rfl,rfl,rfl,rfl,rfl,rfl,rfl,rfl,(l_ rfl (jof qr27 hr28)),trivial⟩
     have qr27:=hr26
     replace hr26:=zeb hr26
     try dsimp only[Con.kind,Con.parts,Con.name,Con.lo,Con.hi,Con.cap,Con.ad]at hr26
     refine Zz 6 ?_
     exact met ⟨rfl,rfl,rfl,rfl,rfl,rfl,rfl,rfl,rfl,rfl,rfl,rfl,rfl,(l_ rfl (jot qr27)),trivial⟩
    refine Zz 1 ?_
    refine as_ 9 ((((x1==0)||(bn_ nm)))||(((x1==2)&&(bG_ nm)))) (fun r=>[(0,.agg #[.int .i64 k,str nm,.int .i64 lo,.int .i64 hi,.slice ad ps.length cap]),(1,zp_ b1 0),(2,.int .i64 0),(11,.bool false),(12,zp_ b1 0),(13,.int .i64 k),(14,.pointer (some (rad (some ⟨3,0,none⟩) (k.toNat*4)))),(15,.agg #[.int .i64 x1,.int .i64 x2,.int .i64 x3,.bool true]),(3,zp_ b2 0),(39,.bool false),(40,zp_ b2 3),(41,.bool true),(56,.bool false),(82,.bool r)]) ?_ fun r29 hr29=>?_
    ·cases r27
     ·have qr29:=hr27
      simp at hr27
      try dsimp only[Con.kind,Con.parts,Con.name,Con.lo,Con.hi,Con.cap,Con.ad]at hr27
      refine Zz 5 ?_
      refine s_ (V_ rfl rfl) rfl fun r30 hr30=>Zz 2 ?_
      refine as_ 4 ((x1==2)&&(bG_ nm)) (fun r=>[(0,.agg #[.int .i64 k,str nm,.int .i64 lo,.int .i64 hi,.slice ad ps.length cap]),(1,zp_ b1 0),(2,.int .i64 0),(11,.bool false),(12,zp_ b1 0),(13,.int .i64 k),(14,.pointer (some (rad (some ⟨3,0,none⟩) (k.toNat*4)))),(15,.agg #[.int .i64 x1,.int .i64 x2,.int .i64 x3,.bool true]),(3,zp_ b2 0),(39,.bool false),(40,zp_ b2 3),(41,.bool true),(56,.bool false),(73,.bool false),(81,.bool r)]) ?_ fun r31 hr31=>?_
      ·cases r30
       ·have qr31:=hr30
        replace hr30:=znb hr30
        try dsimp only[Con.kind,Con.parts,Con.name,Con.lo,Con.hi,Con.cap,Con.ad]at hr30
        refine Zz 7 ?_
        exact met ⟨rfl,rfl,rfl,rfl,rfl,rfl,rfl,rfl,rfl,rfl,rfl,rfl,rfl,rfl,(l_ rfl (jaf qr31)),trivial⟩
       have qr31:=hr30
       replace hr30:=zeb hr30
       try dsimp only[Con.kind,Con.parts,Con.name,Con.lo,Con.hi,Con.cap,Con.ad]at hr30
       refine Zz 5 ?_
       refine N_ (gn_ nm (Con.ok_name hok)) rfl (.refl _) zt rfl fun r32 hr32=>Zz 4 ?_
       exact met ⟨rfl,rfl,rfl,rfl,rfl,rfl,rfl,rfl,rfl,rfl,rfl,rfl,rfl,rfl,(l_ rfl (jat qr31 hr32)),trivial⟩
      refine Zz 3 ?_
      exact met ⟨rfl,rfl,rfl,rfl,rfl,rfl,rfl,rfl,rfl,rfl,rfl,rfl,rfl,(l_ rfl (jof qr29 hr31)),trivial⟩
     have qr29:=hr27
     simp at hr27
     try dsimp only[Con.kind,Con.parts,Con.name,Con.lo,Con.hi,Con.cap,Con.ad]at hr27
     refine Zz 11 ?_
     exact met ⟨rfl,rfl,rfl,rfl,rfl,rfl,rfl,rfl,rfl,rfl,rfl,rfl,rfl,(l_ rfl (jot qr29)),trivial⟩
    refine Zz 2 ?_
    cases r29
    ·simp at hr29
     try dsimp only[Con.kind,Con.parts,Con.name,Con.lo,Con.hi,Con.cap,Con.ad]at hr29
     refine Zz 9 ?_
     exact G_ eT_ () (Y_ rfl (by unfold Con.fieldErr;simp only[Con.kind,Con.parts,Con.name,Con.lo,Con.hi];simp only[hnd];repeat (first|rfl|exact (if_pos (by omega)).symm|(rw[if_pos (by first|omega|(simp_all;done)|(simp_all;omega)|grind)];first|done|rfl)|(rw[if_neg (by first|omega|(simp_all;done)|(simp_all;omega)|grind)])))) (.refl _) zt
    simp at hr29
    try dsimp only[Con.kind,Con.parts,Con.name,Con.lo,Con.hi,Con.cap,Con.ad]at hr29
    refine Zz 7 ?_
    exact G_ eT_ () (Y_ rfl (by unfold Con.fieldErr;simp only[Con.kind,Con.parts,Con.name,Con.lo,Con.hi];simp only[hnd];repeat (first|rfl|exact (if_pos (by omega)).symm|(rw[if_pos (by first|omega|(simp_all;done)|(simp_all;omega)|grind)];first|done|rfl)|(rw[if_neg (by first|omega|(simp_all;done)|(simp_all;omega)|grind)])))) (.refl _) zt
   simp at hr24
   try dsimp only[Con.kind,Con.parts,Con.name,Con.lo,Con.hi,Con.cap,Con.ad]at hr24
   refine Zz 7 ?_
   exact G_ eT_ () (Y_ rfl (by unfold Con.fieldErr;simp only[Con.kind,Con.parts,Con.name,Con.lo,Con.hi];simp only[hnd];repeat (first|rfl|exact (if_pos (by omega)).symm|(rw[if_pos (by first|omega|(simp_all;done)|(simp_all;omega)|grind)];first|done|rfl)|(rw[if_neg (by first|omega|(simp_all;done)|(simp_all;omega)|grind)])))) (.refl _) zt
  simp at hr7
  try dsimp only[Con.kind,Con.parts,Con.name,Con.lo,Con.hi,Con.cap,Con.ad]at hr7
  refine Zz 7 ?_
  exact G_ eT_ () (Y_ rfl (by unfold Con.fieldErr;simp only[Con.kind,Con.parts,Con.name,Con.lo,Con.hi];simp only[hnd];repeat (first|rfl|exact (if_pos (by omega)).symm|(rw[if_pos (by first|omega|(simp_all;done)|(simp_all;omega)|grind)];first|done|rfl)|(rw[if_neg (by first|omega|(simp_all;done)|(simp_all;omega)|grind)])))) (.refl _) zt
 simp at hr2
 try dsimp only[Con.kind,Con.parts,Con.name,Con.lo,Con.hi,Con.cap,Con.ad]at hr2
 refine Zz 7 ?_
 exact G_ eT_ () (Y_ rfl (by unfold Con.fieldErr;simp only[Con.kind,Con.parts,Con.name,Con.lo,Con.hi];repeat (first|rfl|exact (if_pos (by omega)).symm|(rw[if_pos (by first|omega|(simp_all;done)|(simp_all;omega)|grind)];first|done|rfl)|(rw[if_neg (by first|omega|(simp_all;done)|(simp_all;omega)|grind)])))) (.refl _) zt
end Go.Proofs.YtamklbgaipakfaaGreatDoor
namespace Go.Proofs.YtamklbgaipakfaaGreatDoor
open Go Go.Sx Go.Proofs
attribute [local irreducible] Code.wp wpList wpAnyH
open Go.Vs
theorem rF_ {σ τ:Type} {l:Nat} {Gj:σ→Hp} {Gx:τ→Hp} {stp:Con→σ→σ ⊕ τ} {E:List Fct} {good:Con→Prop} (hgood:∀ c p,good c→p∈c.parts→good p)
    (hY:∀ s x,x.ok→good x→im_ Tryz.prog l x.val (Gj s) (x.memF::E) (fun _:Unit=>.bool (stp x s).isLeft) (fun _=>mX_ Gj Gx (stp x s)) (fun _=>[])) :
    ∀ (m:Nat) (c:Con),c.sz≤m→c.ok→good c→∀ (s:σ) r,Con.fold stp c s=r →
    Tri Tryz.prog 199 #[c.val,.func (.yield l) #[] #[]] (Gj s) (c.memF::E) (fun _:Unit=>.bool r.isLeft) (fun _=>mX_ Gj Gx r) (fun _=>[]):=by
  intro m
  induction m with
  | zero=>intro c h;have:=c.sz_pos;omega
  | succ m ih =>
    intro c hm hok hg s r hr
    obtain⟨k,nm,lo,hi,ad,cap,ps⟩:=c
    have hlen:=Con.ok_len hok
    simp only[Con.parts,Con.cap]at hlen
    have hgp:∀ p∈ps,good p:=fun p hp=>hgood _ p hg hp
    refine o_ Tryz.func199 rfl rfl Tryz.ntmps199 rfl fun v0=>?_
    refine m_ ?_
    refine d_ ?_
    refine ah_ rfl rfl fun b1=>?_
    refine c_ (n_ rfl) rfl ?_
    refine j_ ?_
    refine e_ rfl ?_
    refine m_ ?_
    refine m_ ?_
    rcases hfc:stp (.mk k nm lo hi ad cap ps) s with s1|t1
    · skip
      refine fm_ (ι:=Unit) (fun _=>[(1,.func (.yield l) #[] #[]),(2,zp_ b1 0),(10,.bool false)]) (fun _=>(b1,.cells (Con.mk k nm lo hi ad cap ps).cells.toArray 46 (0,0))::Gj s1) (fun _=>[(Con.mk k nm lo hi ad cap ps).memF]++E) ?_ fun _=>?_
      · skip
        refine bj_ ?_
        refine ax_ aj_ (q_ rfl) rfl rfl ?_
        refine ax_ aj_ (cK_ (c:=.mk k nm lo hi ad cap ps) 0 w_ g_ rfl rfl) rfl rfl ?_
        refine eh_ (hY s _ hok hg) rfl rfl (@List.perm_append_comm _ [_] _) (fun v _ h=>h) rfl fun _=>?_
        rw[hfc]
        refine ax_ aj_ (aE_ rfl) rfl rfl ?_
        refine bX_ ?_
        refine cE_ rfl ?_
        exact dd_ () zl (F:=[]) (by rw[List.append_nil];exact @List.perm_append_comm _ _ [_]) zh
      · skip
        refine e_ rfl ?_
        refine F_ rfl ?_
        refine ai_ ?_
        refine e_ rfl ?_
        refine m_ ?_
        refine m_ ?_
        refine d_ ?_
        refine c_ (A_ z_ rfl rfl rfl ba_) rfl ?_
        refine c_ (M_ 0 bk_ rfl rfl rfl) rfl ?_
        refine c_ (bM_ B_ rfl) rfl ?_
        refine c_ (q_ rfl) rfl ?_
        refine j_ ?_
        refine e_ rfl ?_
        refine aB_ ?_
        refine aN_ [(1,.func (.yield l) #[] #[]),(12,.slice ad ps.length cap),(13,.int .i64 (ps.length:Int)),(14,.int .i64 ((0:Nat):Int))] zl ?_
        refine aT_ (ι:={q:Nat×σ // q.1≤ps.length∧Con.fold.folds stp (ps.take q.1) s1=.inl q.2}) (fun i=>[(1,.func (.yield l) #[] #[]),(12,.slice ad ps.length cap),(13,.int .i64 (ps.length:Int)),(14,.int .i64 (i.1.1:Int))]) (fun i=>_::Gj i.1.2) (fun _=>_) (fun i=>ps.length - i.1.1) ⟨(0,s1),by simp[Con.fold.folds]⟩ ?_
        rintro ⟨⟨i,m1⟩,hk⟩
        refine aN_ [(1,.func (.yield l) #[] #[]),(12,.slice ad ps.length cap),(13,.int .i64 (ps.length:Int)),(14,.int .i64 (i:Int))] zl ?_
        refine m_ ?_
        refine d_ ?_
        refine s_ (bR_ rfl rfl) rfl fun r1 hr1=>?_
        refine j_ ?_
        refine e_ rfl ?_
        refine m_ ?_
        cases r1
        · skip
          replace hr1:=zdf hr1
          try dsimp only[Con.kind,Con.parts,Con.name,Con.lo,Con.hi,Con.cap,Con.ad]at hr1
          refine F_ rfl ?_
          refine cp_ rfl ?_
          refine e_ rfl ?_
          refine m_ ?_
          refine d_ ?_
          refine c_ (n_ rfl) rfl ?_
          refine j_ ?_
          refine e_ rfl ?_
          refine ar_ ?_
          obtain rfl:r=.inl m1:=by rw[← hr,Con.fold_eq,hfc];exact Con.folds_yes (show ps.length≤i by omega) hk.2
          exact G_ Tryz.results199 () rfl (@List.perm_append_comm _ [_] _) zt
        · skip
          replace hr1:=zdt hr1
          try dsimp only[Con.kind,Con.parts,Con.name,Con.lo,Con.hi,Con.cap,Con.ad]at hr1
          have hlt:i<ps.length:=by omega
          obtain⟨p,hp⟩:∃ p,ps[i]? = some p:=⟨_,List.getElem?_eq_getElem hlt⟩
          have hpm:p∈ps:=List.mem_of_getElem? hp
          refine E_ rfl ?_
          refine ai_ ?_
          refine e_ rfl ?_
          refine m_ ?_
          refine aB_ ?_
          refine m_ ?_
          refine d_ ?_
          refine c_ (T_ B_ g_ rfl rfl (fun v _ h=>Con.row_addr (c:=.mk k nm lo hi ad cap ps) h.1 hp) (by omega) (by omega)) rfl ?_
          refine c_ (al_ (us:=p.cells) w_ g_ rfl (fun v _ h=>((Con.mem_iff (.mk k nm lo hi ad cap ps) v).1 h.1).1) p.cells_len (Con.part_cells (c:=.mk k nm lo hi ad cap ps) (i:=i) hp)) rfl ?_
          refine au_ bL_ rfl fun b2=>?_
          refine eG_ 0 g_ rfl rfl rfl rfl ?_
          refine j_ ?_
          refine e_ rfl ?_
          refine m_ ?_
          rcases hfp:Con.fold stp p m1 with m2|t2
          · skip
            refine d_ ?_
            refine c_ (cK_ 0 w_ g_ rfl rfl) rfl ?_
            refine c_ (q_ rfl) rfl ?_
            refine i_ (ih p (by have:=Con.sz_part (c:=.mk k nm lo hi ad cap ps) hpm;omega) (Con.ok_part (c:=.mk k nm lo hi ad cap ps) hok hpm) (hgp p hpm) m1 _ hfp) rfl (@List.perm_append_comm _ [_,_] _) (fun v _ h=>⟨Con.mem_part (c:=.mk k nm lo hi ad cap ps) h.1 hpm,h.2⟩) rfl fun _=>?_
            refine W_ (@List.perm_append_comm _ _ [_,_]) ?_
            refine c_ (aE_ rfl) rfl ?_
            refine j_ ?_
            refine e_ rfl ?_
            refine F_ rfl ?_
            refine ai_ ?_
            refine e_ rfl ?_
            refine d_ ?_
            refine c_ (aA_ rfl rfl rfl (be_ (by omega) (by omega))) rfl ?_
            refine c_ (q_ rfl) rfl ?_
            refine j_ ?_
            refine L_ rfl ?_
            exact R_ ⟨(i+1,m2),hlt,Con.folds_step hp hk.2 hfp⟩ (by simp;omega) zl (F:=[_]) (@List.perm_append_comm _ [_] _) zh
          · skip
            refine d_ ?_
            refine c_ (cK_ 0 w_ g_ rfl rfl) rfl ?_
            refine c_ (q_ rfl) rfl ?_
            refine i_ (ih p (by have:=Con.sz_part (c:=.mk k nm lo hi ad cap ps) hpm;omega) (Con.ok_part (c:=.mk k nm lo hi ad cap ps) hok hpm) (hgp p hpm) m1 _ hfp) rfl (@List.perm_append_comm _ [_,_] _) (fun v _ h=>⟨Con.mem_part (c:=.mk k nm lo hi ad cap ps) h.1 hpm,h.2⟩) rfl fun _=>?_
            refine W_ (@List.perm_append_comm _ _ [_,_]) ?_
            refine c_ (aE_ rfl) rfl ?_
            refine j_ ?_
            refine e_ rfl ?_
            refine E_ rfl ?_
            refine m_ ?_
            refine d_ ?_
            refine c_ (n_ rfl) rfl ?_
            refine j_ ?_
            refine e_ rfl ?_
            refine ar_ ?_
            obtain rfl:r=.inr t2:=by rw[← hr,Con.fold_eq,hfc];exact Con.folds_no hp hk.2 hfp
            exact G_ Tryz.results199 () rfl (@List.perm_append_comm _ [_,_] _) zt
    · skip
      refine fm_ (ι:=Unit) (fun _=>[(1,.func (.yield l) #[] #[]),(2,zp_ b1 0),(10,.bool true)]) (fun _=>(b1,.cells (Con.mk k nm lo hi ad cap ps).cells.toArray 46 (0,0))::Gx t1) (fun _=>[(Con.mk k nm lo hi ad cap ps).memF]++E) ?_ fun _=>?_
      · skip
        refine bj_ ?_
        refine ax_ aj_ (q_ rfl) rfl rfl ?_
        refine ax_ aj_ (cK_ (c:=.mk k nm lo hi ad cap ps) 0 w_ g_ rfl rfl) rfl rfl ?_
        refine eh_ (hY s _ hok hg) rfl rfl (@List.perm_append_comm _ [_] _) (fun v _ h=>h) rfl fun _=>?_
        rw[hfc]
        refine ax_ aj_ (aE_ rfl) rfl rfl ?_
        refine bX_ ?_
        refine cE_ rfl ?_
        exact dd_ () zl (F:=[]) (by rw[List.append_nil];exact @List.perm_append_comm _ _ [_]) zh
      · skip
        refine e_ rfl ?_
        refine E_ rfl ?_
        refine m_ ?_
        refine d_ ?_
        refine c_ (n_ rfl) rfl ?_
        refine j_ ?_
        refine e_ rfl ?_
        refine ar_ ?_
        obtain rfl:r=.inr t1:=by rw[← hr,Con.fold_eq,hfc]
        exact G_ Tryz.results199 () rfl (@List.perm_append_comm _ [_] _) zt
theorem qg_ (c:Con) :
    Tri Tryz.prog 126 #[c.val] [] [] (fun b:Nat=>.func (.func 198) #[] #[zp_ b 0]) (fun b=>[(b,.cells c.cells.toArray 46 (0,0))]) (fun _=>[]):=by
  refine o_ Tryz.func126 rfl rfl Tryz.ntmps126 rfl fun v0=>?_
  refine Zz 2 ?_
  refine ah_ rfl rfl fun b1=>Zz 5 ?_
  refine c_ (eO_ rfl rfl) rfl (Zz 4 ?_)
  exact G_ Tryz.results126 b1 rfl (F:=[]) (.refl _) zt
theorem oo_ {σ τ:Type} {l b:Nat} {Gj:σ→Hp} {Gx:τ→Hp} {stp:Con→σ→σ ⊕ τ} {E:List Fct} {good:Con→Prop} (hgood:∀ c p,good c→p∈c.parts→good p)
    (hY:∀ s x,x.ok→good x→im_ Tryz.prog l x.val (Gj s) (x.memF::E) (fun _:Unit=>.bool (stp x s).isLeft) (fun _=>mX_ Gj Gx (stp x s)) (fun _=>[]))
    (c:Con) (hok:c.ok) (hg:good c) (s:σ) :
    Tri Tryz.prog 198 #[.func (.yield l) #[] #[],zp_ b 0] ((b,.cells c.cells.toArray 46 (0,0))::Gj s) (c.memF::E) (fun _:Unit=>.tuple #[]) (fun _=>(b,.cells c.cells.toArray 46 (0,0))::mX_ Gj Gx (Con.fold stp c s)) (fun _=>[]):=by
  refine o_ Tryz.func198 rfl rfl Tryz.ntmps198 rfl fun v0=>?_
  refine d_ (c_ (cK_ (c:=c) 0 w_ g_ rfl rfl) rfl (Zz 1 ?_))
  refine i_ (rF_ hgood hY _ c (Nat.le_refl _) hok hg s _ rfl) rfl (@List.perm_append_comm _ [_] _) (fun v _ h=>h) rfl fun _=>Zz 2 ?_
  exact fd_ Tryz.results198 () rfl (F:=[]) (by rw[List.append_nil];exact @List.perm_append_comm _ _ [_]) zt
theorem ex_ (c:Con) (hok:c.ok):Tri Tryz.prog 133 #[c.val] [] [c.memF,ck_] (fun _:Unit=>.int .i64 c.check) (fun _=>[]) (fun _=>[]):=by
 obtain⟨k,nm,lo,hi,ad,cap,ps⟩:=c
 refine eq_ Tryz.func133 rfl rfl Tryz.ntmps133 rfl fun v0=>?_
 refine Zz 2 ?_
 refine ah_ rfl rfl fun b1=>au_ Tryz.zeroValue28 rfl fun b2=>Zz 4 ?_
 refine au_ bb_ rfl fun b3=>aa_ 0 ab_ rfl rfl rfl rfl rfl rfl (Zz 6 ?_)
 refine jF_ 0 (fits_c _ (.mk k nm lo hi ad cap ps) (Nat.le_refl _) hok 0 0 b3 (by omega) (by omega) _ rfl) rfl rfl zf rfl fun r1 hr1=>c_ (aE_ rfl) rfl (Zz 2 ?_)
 cases r1
 ·try dsimp only[Con.kind,Con.parts,Con.name,Con.lo,Con.hi,Con.cap,Con.ad]at hr1
  refine Zz 3 ?_
  refine aa_ 1 Tryz.sizeOf28 rfl rfl rfl rfl rfl rfl (Zz 3 ?_)
  exact retM () (fun a v h1 h2 _=>by rw[hQ_ 1 Tryz.results133 Tryz.isAgg28 rfl rfl a v h1 h2];simp[Con.check, *]) (.refl _) zt
 try dsimp only[Con.kind,Con.parts,Con.name,Con.lo,Con.hi,Con.cap,Con.ad]at hr1
 refine Zz 7 ?_
 refine i_ (qg_ (.mk k nm lo hi ad cap ps)) rfl (.refl _) zt rfl fun b=>Zz 3 ?_
 refine aN_ [(2,zp_ b2 0),(10,.func (.func 198) #[] #[zp_ b 0])] zl ?_
 refine ev_ (H':=[_,_]) (F:=[_,_]) (.cons _ (.swap _ _ _)) zh ?_
 refine ku_ (α:={c:Con // c.ok}) (xv:=fun x=>x.1.val) (good:=fun _=>True) (stp:=fun x=>Con.chk x.1) (Γx:=fun x=>[x.1.memF,ck_]) (Γi:=[Con.memF (.mk k nm lo hi ad cap ps),ck_]) (Hj:=fun _:Unit=>[(b2,.cells #[.int .i64 0] 28 (0,0))]) (Hx:=fun t:Int=>[(b2,.cells #[.int .i64 t] 28 (0,0))]) (Hc:=[(b,.cells (Con.mk k nm lo hi ad cap ps).cells.toArray 46 (0,0))]) (caps:=[zp_ b 0]) () (Con.fold Con.chk (.mk k nm lo hi ad cap ps) ()) rfl (.refl _) (fun v _ h=>h) ?_ ?_ ?_ ?_
 ·rintro l D rec hp hst hpe ht hasg hbody s ⟨x,hx⟩ -
  refine jc_ (ι:=Nat) (Hj:=fun _:Unit=>[(b2,.cells #[.int .i64 0] 28 (0,0))]) (Hx:=fun t:Int=>[(b2,.cells #[.int .i64 t] 28 (0,0))]) (s:=s) (res:=Con.chk x s) (Γ:=[x.memF,ck_]) (fun b4=>[(2,zp_ b2 0),(4,zp_ b4 0)]) (fun b4=>[(b4,.cells x.cells.toArray 46 (0,0)),(b2,.cells #[.int .i64 0] 28 (0,0))]) hp hst hpe ht rfl ?_ ?_
  ·intro n v0 H0 HL
   rw[hasg]
   refine bj_ ?_
   refine nL_ (bC_ _) bL_ rfl fun b4=>?_
   refine mK_ (bC_ _) 0 g_ rfl rfl rfl rfl ?_
   refine bX_ ?_
   refine cE_ rfl ?_
   exact dd_ b4 zl (F:=[]) (by rw[List.append_nil];exact .refl _) zh
  intro n v0 H0 HL b4
  rw[hbody]
  refine fn_ ?_
  refine eQ_ ?_
  refine bj_ ?_
  refine ax_ (bC_ _) (cK_ 0 w_ g_ rfl rfl) rfl rfl ?_
  refine pB_ (kf_ x hx) rfl (.refl _) zf rfl fun _=>?_
  refine ax_ (bC_ _) (n_ rfl) rfl rfl ?_
  refine bX_ ?_
  refine cL_ rfl ?_
  refine eQ_ ?_
  refine bj_ ?_
  refine ax_ (bC_ _) (q_ rfl) rfl rfl ?_
  refine kK_ (bC_ _) (bU_ rfl rfl) rfl rfl fun r2 hr2=>?_
  refine bX_ ?_
  refine cL_ rfl ?_
  cases r2
  ·replace hr2:=cy_ hr2
   try dsimp only[Con.kind,Con.parts,Con.name,Con.lo,Con.hi,Con.cap,Con.ad]at hr2
   refine mn_ rfl ?_
   refine kv_ ?_
   refine cE_ rfl ?_
   exact kw_ () (by simp[Con.chk, *]) (G:=[_]) (@List.perm_append_comm _ [_] _)
  replace hr2:=cw_ hr2
  try dsimp only[Con.kind,Con.parts,Con.name,Con.lo,Con.hi,Con.cap,Con.ad]at hr2
  refine mm_ rfl ?_
  refine eQ_ ?_
  refine bj_ ?_
  refine ax_ (bC_ _) (q_ rfl) rfl rfl ?_
  refine ei_ (bC_ _) 1 Tryz.sizeOf28 rfl rfl rfl rfl rfl rfl ?_
  refine bX_ ?_
  refine cL_ rfl ?_
  refine fM_ ?_
  exact pm_ x.fieldErr (by simp[Con.chk, *]) (G:=[_]) (@List.perm_append_comm _ [_] _)
 ·intro l Gj Gx hY
  exact oo_ (E:=[ck_]) (good:=fun _=>True) (fun _ _ _ _=>trivial) (fun s x hx _=>hY s ⟨x,hx⟩ trivial) _ hok trivial ()
 ·intro s hs D l r
  rw[Con.fold_chk _ _ (Nat.le_refl _)]at hs
  refine cL_ rfl ?_
  refine eQ_ ?_
  refine bj_ ?_
  refine ei_ aj_ 1 Tryz.sizeOf28 rfl rfl rfl rfl rfl rfl ?_
  refine bX_ ?_
  refine cL_ rfl ?_
  refine fM_ ?_
  have hz:(0:Int)=(Con.mk k nm lo hi ad cap ps).check:=by unfold Con.check;rw[if_pos (by assumption)];split at hs;(rename_i h;exact h.symm);cases hs
  exact ky_ (G:=[_,_,_]) () (fun a v h1 h2=>by rw[← hz];exact hQ_ 1 Tryz.results133 Tryz.isAgg28 rfl rfl a v h1 h2) (eK_ (i:=3) rfl) ⟨_,.refl _⟩ rfl
 intro t hs D l r
 rw[Con.fold_chk _ _ (Nat.le_refl _)]at hs
 have hz:t=(Con.mk k nm lo hi ad cap ps).check:=by unfold Con.check;rw[if_pos (by assumption)];split at hs;cases hs;injection hs with hs;exact hs.symm
 exact ky_ (G:=[_,_,_]) () (fun a v h1 h2=>by rw[← hz];exact hQ_ 1 Tryz.results133 Tryz.isAgg28 rfl rfl a v h1 h2) (eK_ (i:=3) rfl) ⟨_,.refl _⟩ rfl
end Go.Proofs.YtamklbgaipakfaaGreatDoor
