/-
  Part of the proof of the law CanonRoles over this seat: the small logic, the data, the contracts of functions (no condition).
-/
import Derived.Test.YtpbnmnfdgckaiaaGreatDoorQCanonRoles3
import Derived.Test.YtpbnmnfdgckaiaaGreatDoorQCanonRoles2
import Derived.Test.YtpbnmnfdgckaiaaGreatDoorProg
set_option linter.unusedVariables false
set_option linter.unusedSimpArgs false
set_option linter.unusedSectionVars false
set_option maxHeartbeats 1000000
namespace Go.Proofs.YtpbnmnfdgckaiaaGreatDoor
open Go Go.Sx Go.Proofs
attribute [local irreducible] Code.wp wpList wpAnyH
open Go.Vs
theorem lZ_ {G:Prop} (h:G:=by
 refine Zz 7 ?_;exact met ⟨rfl,rfl,rfl,rfl,rfl,rfl,rfl,rfl,rfl,rfl,rfl,rfl,rfl,rfl,(n_ rfl (jaf I)),trivial⟩):G:=h
theorem jd_ {G:Prop} (h:G:=by
 exact met ⟨rfl,rfl,rfl,rfl,rfl,rfl,rfl,rfl,rfl,rfl,rfl,rfl,(n_ rfl (jot d)),trivial⟩):G:=h
theorem hc_ {G:Prop} (h:G:=by
 exact met ⟨rfl,rfl,rfl,rfl,rfl,rfl,rfl,rfl,rfl,rfl,rfl,rfl,rfl,(n_ rfl (jot d)),trivial⟩):G:=h
theorem eo_ {G:Prop} (h:G:=by
 exact ae_ Tryz.results102 () (ce_ rfl (by unfold Con.fieldErr;simp only[Con.kind,Con.parts,Con.name,Con.lo,Con.hi];simp only[P];repeat (first|rfl|exact (if_pos za_).symm|(rw[if_pos zE_];first|done|rfl)|(rw[if_neg zE_])))) (.refl _) zt):G:=h
theorem nF_ (c:Con) (a0:c.ok):Tri Tryz.prog 102 #[c.val] [] [cj_] (fun _:Unit=>.int .i64 c.fieldErr) (fun _=>[]) (fun _=>[]):=by
 obtain⟨k,nm,lo,hi,ad,cap,ps⟩:=c;have a3:=Con.ok_len a0;simp only[Con.parts,Con.cap]at a3;refine i_ Tryz.func102 rfl rfl Tryz.ntmps102 rfl fun v_1=>?_;refine Zz 2 ?_;refine aa_ rfl rfl fun C=>Zz 8 ?_
 refine B_ (cY_ rfl rfl) rfl fun r_1 M=>Zz 1 ?_
 refine ai_ 4 ((decide (k<1))||(decide (7<k))) (fun r=>[(0,.agg (Con.cells (Con.mk k nm lo hi ad cap ps)).toArray),(1,zp_ C 0),(2,.int .i64 0),(11,.bool r)]) ?_ fun r_2 R=>?_
 ·cases r_1
  ·have d:=M
   replace M:=zdf M;try dsimp only[Con.kind,Con.parts,Con.name,Con.lo,Con.hi,Con.cap,Con.ad]at M
   refine Zz 5 ?_;refine B_ (dw_ rfl rfl) rfl fun a4 J=>Zz 3 ?_
   exact met (zm (jof d J))
  have d:=M;replace M:=zdt M;try dsimp only[Con.kind,Con.parts,Con.name,Con.lo,Con.hi,Con.cap,Con.ad]at M
  refine Zz 6 ?_;exact met ⟨rfl,rfl,rfl,(n_ rfl (jot d)),trivial⟩
 refine Zz 2 ?_;cases r_2
 ·simp at R
  try dsimp only[Con.kind,Con.parts,Con.name,Con.lo,Con.hi,Con.cap,Con.ad]at R
  obtain⟨x,hx⟩:∃ x,ex_[k.toNat]? = some x:=⟨_,List.getElem?_eq_getElem (show k.toNat<8 by omega)⟩;have P:nd k=x:=by simp[nd,hx]
  obtain⟨E,L,K,xb⟩:=x;refine Zz 7 ?_;refine e_ (dV_ Tryz.runUnderlying201 Tryz.sizeOf200 rfl rfl zaI_ (by show k<(8:Int);omega)) rfl ?_;refine e_ (aj_ (ad:=some ⟨1,0,none⟩) (k:=k.toNat*4) (us:=sB_ (E,L,K,xb)) Tryz.isAgg200 Tryz.sizeOf200 rfl (fun v _ h=>h.1.1) (kw_ _) (fun j y hj=>by rw[kC_ sB_ 4 kw_ ex_ k.toNat j _ hx (by have:=(List.getElem?_eq_some_iff.1 hj).1;rwa [kw_]at this)];exact hj)) rfl ?_;refine G_ Tryz.zeroValue200 rfl fun G=>u_ 0 Tryz.sizeOf200 rfl rfl rfl rfl rfl rfl (Zz 10 ?_)
  refine B_ (cY_ rfl rfl) rfl fun a4 J=>Zz 1 ?_
  refine ai_ 7 ((decide ((ps.length:Int)<L))||(decide (K<(ps.length:Int)))) (fun r=>[(0,.agg (Con.cells (Con.mk k nm lo hi ad cap ps)).toArray),(1,zp_ C 0),(2,.int .i64 0),(11,.bool false),(12,zp_ C 0),(13,.int .i64 k),(14,.pointer (some (rad (some ⟨1,0,none⟩) (k.toNat*4)))),(15,.agg #[.int .i64 E,.int .i64 L,.int .i64 K,.bool xb]),(3,zp_ G 0),(29,.bool r)]) ?_ fun r_4 O=>?_
  ·cases a4
   ·have d:=J
    replace J:=zdf J;try dsimp only[Con.kind,Con.parts,Con.name,Con.lo,Con.hi,Con.cap,Con.ad]at J
    refine Zz 11 ?_;refine B_ (dw_ rfl rfl) rfl fun a1 N=>Zz 3 ?_
    exact met (zm (jof d N))
   have d:=J;replace J:=zdt J;try dsimp only[Con.kind,Con.parts,Con.name,Con.lo,Con.hi,Con.cap,Con.ad]at J
   refine Zz 9 ?_;exact met ⟨rfl,rfl,rfl,rfl,rfl,rfl,rfl,rfl,rfl,(n_ rfl (jot d)),trivial⟩
  refine Zz 1 ?_;refine ai_ 9 ((((decide ((ps.length:Int)<L))||(decide (K<(ps.length:Int)))))||(((E==0)&&(nm != [])))) (fun r=>[(0,.agg (Con.cells (Con.mk k nm lo hi ad cap ps)).toArray),(1,zp_ C 0),(2,.int .i64 0),(11,.bool false),(12,zp_ C 0),(13,.int .i64 k),(14,.pointer (some (rad (some ⟨1,0,none⟩) (k.toNat*4)))),(15,.agg #[.int .i64 E,.int .i64 L,.int .i64 K,.bool xb]),(3,zp_ G 0),(39,.bool r)]) ?_ fun a1 N=>?_
  ·cases r_4
   ·have d:=O
    simp at O
    try dsimp only[Con.kind,Con.parts,Con.name,Con.lo,Con.hi,Con.cap,Con.ad]at O
    refine Zz 5 ?_;refine B_ (bJ_ rfl rfl) rfl fun V e=>Zz 2 ?_
    refine ai_ 4 ((E==0)&&(nm != [])) (fun r=>[(0,.agg (Con.cells (Con.mk k nm lo hi ad cap ps)).toArray),(1,zp_ C 0),(2,.int .i64 0),(11,.bool false),(12,zp_ C 0),(13,.int .i64 k),(14,.pointer (some (rad (some ⟨1,0,none⟩) (k.toNat*4)))),(15,.agg #[.int .i64 E,.int .i64 L,.int .i64 K,.bool xb]),(3,zp_ G 0),(30,.bool false),(38,.bool r)]) ?_ fun W H=>?_
    ·cases V
     ·have I:=e
      replace e:=znb e;try dsimp only[Con.kind,Con.parts,Con.name,Con.lo,Con.hi,Con.cap,Con.ad]at e
      refine Zz 7 ?_;exact met ⟨rfl,rfl,rfl,rfl,rfl,rfl,rfl,rfl,rfl,rfl,(n_ rfl (jaf I)),trivial⟩
     have I:=e;replace e:=zeb e;try dsimp only[Con.kind,Con.parts,Con.name,Con.lo,Con.hi,Con.cap,Con.ad]at e
     refine Zz 5 ?_;refine B_ (cF_ rfl rfl) rfl fun U q=>Zz 4 ?_
     exact met ⟨rfl,rfl,rfl,rfl,rfl,rfl,rfl,rfl,rfl,rfl,(n_ rfl (jat I q)),trivial⟩
    refine Zz 3 ?_;exact met (zm (jof d H))
   have d:=O;simp at O
   try dsimp only[Con.kind,Con.parts,Con.name,Con.lo,Con.hi,Con.cap,Con.ad]at O
   refine Zz 11 ?_;exact met ⟨rfl,rfl,rfl,rfl,rfl,rfl,rfl,rfl,rfl,(n_ rfl (jot d)),trivial⟩
  refine Zz 2 ?_;cases a1
  ·simp at N
   try dsimp only[Con.kind,Con.parts,Con.name,Con.lo,Con.hi,Con.cap,Con.ad]at N
   refine Zz 10 ?_;cases xb
   ·try dsimp only[Con.kind,Con.parts,Con.name,Con.lo,Con.hi,Con.cap,Con.ad]at hxb
    refine Zz 5 ?_;refine B_ (bU_ rfl rfl) rfl fun V e=>Zz 1 ?_
    refine ai_ 4 ((lo != 0)||(hi != 0)) (fun r=>[(0,.agg (Con.cells (Con.mk k nm lo hi ad cap ps)).toArray),(1,zp_ C 0),(2,.int .i64 0),(11,.bool false),(12,zp_ C 0),(13,.int .i64 k),(14,.pointer (some (rad (some ⟨1,0,none⟩) (k.toNat*4)))),(15,.agg #[.int .i64 E,.int .i64 L,.int .i64 K,.bool false]),(3,zp_ G 0),(39,.bool false),(40,zp_ G 3),(41,.bool false),(64,.bool r)]) ?_ fun W H=>?_
    ·cases V
     ·have d:=e
      replace e:=fi_ e;try dsimp only[Con.kind,Con.parts,Con.name,Con.lo,Con.hi,Con.cap,Con.ad]at e
      refine Zz 5 ?_;refine B_ (bU_ rfl rfl) rfl fun U q=>Zz 3 ?_
      exact met (zm (jof d q))
     have d:=e;replace e:=fg_ e;try dsimp only[Con.kind,Con.parts,Con.name,Con.lo,Con.hi,Con.cap,Con.ad]at e
     refine Zz 6 ?_;exact jd_
    refine Zz 2 ?_;cases W
    ·simp at H
     try dsimp only[Con.kind,Con.parts,Con.name,Con.lo,Con.hi,Con.cap,Con.ad]at H
     refine Zz 8 ?_;refine B_ (bJ_ rfl rfl) rfl fun U q=>Zz 1 ?_
     refine ai_ 4 ((E==0)||(bg_ nm)) (fun r=>[(0,.agg (Con.cells (Con.mk k nm lo hi ad cap ps)).toArray),(1,zp_ C 0),(2,.int .i64 0),(11,.bool false),(12,zp_ C 0),(13,.int .i64 k),(14,.pointer (some (rad (some ⟨1,0,none⟩) (k.toNat*4)))),(15,.agg #[.int .i64 E,.int .i64 L,.int .i64 K,.bool false]),(3,zp_ G 0),(39,.bool false),(40,zp_ G 3),(41,.bool false),(64,.bool false),(72,.bool r)]) ?_ fun X B=>?_
     ·cases U
      ·have d:=q
       replace q:=znb q;try dsimp only[Con.kind,Con.parts,Con.name,Con.lo,Con.hi,Con.cap,Con.ad]at q
       refine Zz 5 ?_;refine T_ (gQ_ nm) rfl (.refl _) zt rfl fun S A=>Zz 3 ?_
       exact met (zm (jof d A))
      have d:=q;replace q:=zeb q;try dsimp only[Con.kind,Con.parts,Con.name,Con.lo,Con.hi,Con.cap,Con.ad]at q
      refine Zz 6 ?_;exact hc_
     refine Zz 1 ?_;refine ai_ 9 ((((E==0)||(bg_ nm)))||(((E==2)&&(cR_ nm)))) (fun r=>[(0,.agg (Con.cells (Con.mk k nm lo hi ad cap ps)).toArray),(1,zp_ C 0),(2,.int .i64 0),(11,.bool false),(12,zp_ C 0),(13,.int .i64 k),(14,.pointer (some (rad (some ⟨1,0,none⟩) (k.toNat*4)))),(15,.agg #[.int .i64 E,.int .i64 L,.int .i64 K,.bool false]),(3,zp_ G 0),(39,.bool false),(40,zp_ G 3),(41,.bool false),(64,.bool false),(82,.bool r)]) ?_ fun S A=>?_
     ·cases X
      ·have d:=B
       simp at B
       try dsimp only[Con.kind,Con.parts,Con.name,Con.lo,Con.hi,Con.cap,Con.ad]at B
       refine Zz 5 ?_;refine B_ (bJ_ rfl rfl) rfl fun T m=>Zz 2 ?_
       refine ai_ 4 ((E==2)&&(cR_ nm)) (fun r=>[(0,.agg (Con.cells (Con.mk k nm lo hi ad cap ps)).toArray),(1,zp_ C 0),(2,.int .i64 0),(11,.bool false),(12,zp_ C 0),(13,.int .i64 k),(14,.pointer (some (rad (some ⟨1,0,none⟩) (k.toNat*4)))),(15,.agg #[.int .i64 E,.int .i64 L,.int .i64 K,.bool false]),(3,zp_ G 0),(39,.bool false),(40,zp_ G 3),(41,.bool false),(64,.bool false),(73,.bool false),(81,.bool r)]) ?_ fun Y F=>?_
       ·cases T
        ·have I:=m
         replace m:=znb m;try dsimp only[Con.kind,Con.parts,Con.name,Con.lo,Con.hi,Con.cap,Con.ad]at m
         exact lZ_
        have I:=m;replace m:=zeb m;try dsimp only[Con.kind,Con.parts,Con.name,Con.lo,Con.hi,Con.cap,Con.ad]at m
        refine Zz 5 ?_;refine T_ (hs_ nm (Con.ok_name a0)) rfl (.refl _) zt rfl fun a2 Q=>Zz 4 ?_
        exact met ⟨rfl,rfl,rfl,rfl,rfl,rfl,rfl,rfl,rfl,rfl,rfl,rfl,rfl,rfl,(n_ rfl (jat I Q)),trivial⟩
       refine Zz 3 ?_;exact met (zm (jof d F))
      have d:=B;simp at B
      try dsimp only[Con.kind,Con.parts,Con.name,Con.lo,Con.hi,Con.cap,Con.ad]at B
      refine Zz 11 ?_;exact hc_
     refine Zz 2 ?_;cases S
     ·simp at A
      try dsimp only[Con.kind,Con.parts,Con.name,Con.lo,Con.hi,Con.cap,Con.ad]at A
      refine Zz 9 ?_;exact eo_
     simp at A
     try dsimp only[Con.kind,Con.parts,Con.name,Con.lo,Con.hi,Con.cap,Con.ad]at A
     refine Zz 7 ?_;exact eo_
    simp at H
    try dsimp only[Con.kind,Con.parts,Con.name,Con.lo,Con.hi,Con.cap,Con.ad]at H
    refine Zz 7 ?_;exact eo_
   try dsimp only[Con.kind,Con.parts,Con.name,Con.lo,Con.hi,Con.cap,Con.ad]at hxb
   refine Zz 5 ?_;refine B_ (cY_ rfl rfl) rfl fun V e=>Zz 1 ?_
   refine ai_ 6 ((decide (lo<(-1099511627776)))||(decide (hi<lo))) (fun r=>[(0,.agg (Con.cells (Con.mk k nm lo hi ad cap ps)).toArray),(1,zp_ C 0),(2,.int .i64 0),(11,.bool false),(12,zp_ C 0),(13,.int .i64 k),(14,.pointer (some (rad (some ⟨1,0,none⟩) (k.toNat*4)))),(15,.agg #[.int .i64 E,.int .i64 L,.int .i64 K,.bool true]),(3,zp_ G 0),(39,.bool false),(40,zp_ G 3),(41,.bool true),(51,.bool r)]) ?_ fun W H=>?_
   ·cases V
    ·have d:=e
     replace e:=zdf e;try dsimp only[Con.kind,Con.parts,Con.name,Con.lo,Con.hi,Con.cap,Con.ad]at e
     refine Zz 9 ?_;refine B_ (dw_ rfl rfl) rfl fun U q=>Zz 3 ?_
     exact met (zm (jof d q))
    have d:=e;replace e:=zdt e;try dsimp only[Con.kind,Con.parts,Con.name,Con.lo,Con.hi,Con.cap,Con.ad]at e
    refine Zz 8 ?_;exact jd_
   refine Zz 1 ?_;refine ai_ 4 ((((decide (lo<(-1099511627776)))||(decide (hi<lo))))||(decide (1099511627776<hi))) (fun r=>[(0,.agg (Con.cells (Con.mk k nm lo hi ad cap ps)).toArray),(1,zp_ C 0),(2,.int .i64 0),(11,.bool false),(12,zp_ C 0),(13,.int .i64 k),(14,.pointer (some (rad (some ⟨1,0,none⟩) (k.toNat*4)))),(15,.agg #[.int .i64 E,.int .i64 L,.int .i64 K,.bool true]),(3,zp_ G 0),(39,.bool false),(40,zp_ G 3),(41,.bool true),(56,.bool r)]) ?_ fun U q=>?_
   ·cases W
    ·have d:=H
     simp at H
     try dsimp only[Con.kind,Con.parts,Con.name,Con.lo,Con.hi,Con.cap,Con.ad]at H
     refine Zz 5 ?_;refine B_ (dw_ rfl rfl) rfl fun X B=>Zz 3 ?_
     exact met (zm (jof d B))
    have d:=H;simp at H
    try dsimp only[Con.kind,Con.parts,Con.name,Con.lo,Con.hi,Con.cap,Con.ad]at H
    refine Zz 6 ?_;exact jd_
   refine Zz 2 ?_;cases U
   ·simp at q
    try dsimp only[Con.kind,Con.parts,Con.name,Con.lo,Con.hi,Con.cap,Con.ad]at q
    refine Zz 8 ?_;refine B_ (bJ_ rfl rfl) rfl fun X B=>Zz 1 ?_
    refine ai_ 4 ((E==0)||(bg_ nm)) (fun r=>[(0,.agg (Con.cells (Con.mk k nm lo hi ad cap ps)).toArray),(1,zp_ C 0),(2,.int .i64 0),(11,.bool false),(12,zp_ C 0),(13,.int .i64 k),(14,.pointer (some (rad (some ⟨1,0,none⟩) (k.toNat*4)))),(15,.agg #[.int .i64 E,.int .i64 L,.int .i64 K,.bool true]),(3,zp_ G 0),(39,.bool false),(40,zp_ G 3),(41,.bool true),(56,.bool false),(72,.bool r)]) ?_ fun S A=>?_
    ·cases X
     ·have d:=B
      replace B:=znb B;try dsimp only[Con.kind,Con.parts,Con.name,Con.lo,Con.hi,Con.cap,Con.ad]at B
      refine Zz 5 ?_;refine T_ (gQ_ nm) rfl (.refl _) zt rfl fun T m=>Zz 3 ?_
      exact met (zm (jof d m))
     have d:=B;replace B:=zeb B;try dsimp only[Con.kind,Con.parts,Con.name,Con.lo,Con.hi,Con.cap,Con.ad]at B
     refine Zz 6 ?_;exact hc_
    refine Zz 1 ?_;refine ai_ 9 ((((E==0)||(bg_ nm)))||(((E==2)&&(cR_ nm)))) (fun r=>[(0,.agg (Con.cells (Con.mk k nm lo hi ad cap ps)).toArray),(1,zp_ C 0),(2,.int .i64 0),(11,.bool false),(12,zp_ C 0),(13,.int .i64 k),(14,.pointer (some (rad (some ⟨1,0,none⟩) (k.toNat*4)))),(15,.agg #[.int .i64 E,.int .i64 L,.int .i64 K,.bool true]),(3,zp_ G 0),(39,.bool false),(40,zp_ G 3),(41,.bool true),(56,.bool false),(82,.bool r)]) ?_ fun T m=>?_
    ·cases S
     ·have d:=A
      simp at A
      try dsimp only[Con.kind,Con.parts,Con.name,Con.lo,Con.hi,Con.cap,Con.ad]at A
      refine Zz 5 ?_;refine B_ (bJ_ rfl rfl) rfl fun Y F=>Zz 2 ?_
      refine ai_ 4 ((E==2)&&(cR_ nm)) (fun r=>[(0,.agg (Con.cells (Con.mk k nm lo hi ad cap ps)).toArray),(1,zp_ C 0),(2,.int .i64 0),(11,.bool false),(12,zp_ C 0),(13,.int .i64 k),(14,.pointer (some (rad (some ⟨1,0,none⟩) (k.toNat*4)))),(15,.agg #[.int .i64 E,.int .i64 L,.int .i64 K,.bool true]),(3,zp_ G 0),(39,.bool false),(40,zp_ G 3),(41,.bool true),(56,.bool false),(73,.bool false),(81,.bool r)]) ?_ fun a2 Q=>?_
      ·cases Y
       ·have I:=F
        replace F:=znb F;try dsimp only[Con.kind,Con.parts,Con.name,Con.lo,Con.hi,Con.cap,Con.ad]at F
        exact lZ_
       have I:=F;replace F:=zeb F;try dsimp only[Con.kind,Con.parts,Con.name,Con.lo,Con.hi,Con.cap,Con.ad]at F
       refine Zz 5 ?_;refine T_ (hs_ nm (Con.ok_name a0)) rfl (.refl _) zt rfl fun r_14 Z=>Zz 4 ?_
       exact met ⟨rfl,rfl,rfl,rfl,rfl,rfl,rfl,rfl,rfl,rfl,rfl,rfl,rfl,rfl,(n_ rfl (jat I Z)),trivial⟩
      refine Zz 3 ?_;exact met (zm (jof d Q))
     have d:=A;simp at A
     try dsimp only[Con.kind,Con.parts,Con.name,Con.lo,Con.hi,Con.cap,Con.ad]at A
     refine Zz 11 ?_;exact hc_
    refine Zz 2 ?_;cases T
    ·simp at m
     try dsimp only[Con.kind,Con.parts,Con.name,Con.lo,Con.hi,Con.cap,Con.ad]at m
     refine Zz 9 ?_;exact eo_
    simp at m
    try dsimp only[Con.kind,Con.parts,Con.name,Con.lo,Con.hi,Con.cap,Con.ad]at m
    refine Zz 7 ?_;exact eo_
   simp at q
   try dsimp only[Con.kind,Con.parts,Con.name,Con.lo,Con.hi,Con.cap,Con.ad]at q
   refine Zz 7 ?_;exact eo_
  simp at N
  try dsimp only[Con.kind,Con.parts,Con.name,Con.lo,Con.hi,Con.cap,Con.ad]at N
  refine Zz 7 ?_;exact eo_
 simp at R
 try dsimp only[Con.kind,Con.parts,Con.name,Con.lo,Con.hi,Con.cap,Con.ad]at R
 refine Zz 7 ?_;exact ae_ Tryz.results102 () (ce_ rfl (by unfold Con.fieldErr;simp only[Con.kind,Con.parts,Con.name,Con.lo,Con.hi];repeat (first|rfl|exact (if_pos za_).symm|(rw[if_pos zE_];first|done|rfl)|(rw[if_neg zE_])))) (.refl _) zt
theorem ww_ {σ τ:Type} {l:Nat} {H:σ→Hp} {N:τ→Hp} {stp:Con→σ→σ ⊕ τ} {E:List Fct} {good:Con→Prop} (B:∀ c p,good c→p∈c.parts→good p)
    (S:∀ s x,x.ok→good x→iT_ Tryz.prog l x.val (H s) (x.memF::E) (fun _:Unit=>.bool (stp x s).isLeft) (fun _=>nh_ H N (stp x s)) (fun _=>[])) :
    ∀ (m:Nat) (c:Con),c.sz≤m→c.ok→good c→∀ (s:σ) r,Con.fold stp c s=r →
    Tri Tryz.prog 149 #[c.val,.func (.yield l) #[] #[]] (H s) (c.memF::E) (fun _:Unit=>.bool r.isLeft) (fun _=>nh_ H N r) (fun _=>[]):=by
  intro m
  induction m with
  | zero=>intro c h;have:=c.sz_pos;omega
  | succ m ih =>
    intro c hm e Q s r O;obtain⟨k,nm,lo,hi,ad,cap,ps⟩:=c;have L:=Con.ok_len e;simp only[Con.parts,Con.cap]at L;have M:∀ p∈ps,good p:=fun p C=>B _ p Q C
    refine i_ Tryz.func149 rfl rfl Tryz.ntmps149 rfl fun T=>?_;refine Zz 2 ?_;refine aa_ rfl rfl fun A=>Zz 5 ?_
    rcases hfc:stp (.mk k nm lo hi ad cap ps) s with G|I
    · skip
      refine jH_ (ι:=Unit) (fun _=>[(1,.func (.yield l) #[] #[]),(2,zp_ A 0),(10,.bool false)]) (fun _=>(A,.cells (Con.mk k nm lo hi ad cap ps).cells.toArray 40 (0,0))::H G) (fun _=>[(Con.mk k nm lo hi ad cap ps).memF]++E) ?_ fun _=>?_
      · skip
        refine aI_ ?_;refine R_ cX_ (al_ rfl) rfl rfl ?_;refine R_ cX_ (dc_ (c:=.mk k nm lo hi ad cap ps) 0 aH_ I_ rfl rfl) rfl rfl ?_;refine hq_ (S s _ e Q) rfl rfl (@List.perm_append_comm _ [_] _) (fun v _ h=>h) rfl fun _=>?_;rw[hfc];refine R_ cX_ (ax_ rfl) rfl rfl ?_;refine bn_ ?_;refine do_ rfl ?_;exact fh_ () zl (F:=[]) zO_ zh
      · skip
        refine Zz 14 ?_;refine bt_ [(1,.func (.yield l) #[] #[]),(12,.slice ad ps.length cap),(13,.int .i64 (ps.length:Int)),(14,.int .i64 ((0:Nat):Int))] zl ?_;refine bQ_ (ι:={q:Nat×σ // q.1≤ps.length∧Con.fold.folds stp (ps.take q.1) G=.inl q.2}) (fun i=>[(1,.func (.yield l) #[] #[]),(12,.slice ad ps.length cap),(13,.int .i64 (ps.length:Int)),(14,.int .i64 (i.1.1:Int))]) (fun i=>_::H i.1.2) (fun _=>_) (fun i=>ps.length - i.1.1) ⟨(0,G),by simp[Con.fold.folds]⟩ ?_;rintro ⟨⟨i,y⟩,hk⟩;refine bt_ [(1,.func (.yield l) #[] #[]),(12,.slice ad ps.length cap),(13,.int .i64 (ps.length:Int)),(14,.int .i64 (i:Int))] zl ?_;refine Zj 2 (fun J=>?_) fun J=>?_
        · skip
          refine Zz 12 ?_;obtain rfl:r=.inl y:=by rw[← O,Con.fold_eq,hfc];exact Con.folds_yes (show ps.length≤i by omega) hk.2
          exact ae_ Tryz.results149 () rfl (@List.perm_append_comm _ [_] _) zt
        · skip
          have K:i<ps.length:=by omega
          obtain⟨p,C⟩:∃ p,ps[i]? = some p:=⟨_,List.getElem?_eq_getElem K⟩;have d:p∈ps:=List.mem_of_getElem? C;refine Zz 10 ?_;refine e_ (Q_ ad_ I_ rfl rfl (fun v _ h=>Con.row_addr (c:=.mk k nm lo hi ad cap ps) h.1 C) za_ za_) rfl (e_ (aj_ (us:=p.cells) aH_ I_ rfl (fun v _ h=>((Con.mem_iff (.mk k nm lo hi ad cap ps) v).1 h.1).1) p.cells_len (Con.part_cells (c:=.mk k nm lo hi ad cap ps) (i:=i) C)) rfl (G_ bT_ rfl fun U=>fd_ 0 I_ rfl rfl rfl rfl (Zz 3 ?_)));rcases hfp:Con.fold stp p y with R|P
          · skip
            refine aG_ (e_ (dc_ 0 aH_ I_ rfl rfl) rfl (Zz 1 ?_));refine g_ (ih p zaz_ (Con.ok_part (c:=.mk k nm lo hi ad cap ps) e d) (M p d) y _ hfp) rfl (@List.perm_append_comm _ [_,_] _) (fun v _ h=>⟨Con.mem_part (c:=.mk k nm lo hi ad cap ps) h.1 d,h.2⟩) rfl fun _=>?_;refine z_ (@List.perm_append_comm _ _ [_,_]) (e_ (ax_ rfl) rfl (Zz 10 ?_));exact x_ ⟨(i+1,R),K,Con.folds_step C hk.2 hfp⟩ zn_ zl (F:=[_]) (@List.perm_append_comm _ [_] _) zh
          · skip
            refine aG_ (e_ (dc_ 0 aH_ I_ rfl rfl) rfl (Zz 1 ?_));refine g_ (ih p zaz_ (Con.ok_part (c:=.mk k nm lo hi ad cap ps) e d) (M p d) y _ hfp) rfl (@List.perm_append_comm _ [_,_] _) (fun v _ h=>⟨Con.mem_part (c:=.mk k nm lo hi ad cap ps) h.1 d,h.2⟩) rfl fun _=>?_;refine z_ (@List.perm_append_comm _ _ [_,_]) (e_ (ax_ rfl) rfl (Zz 9 ?_));obtain rfl:r=.inr P:=by rw[← O,Con.fold_eq,hfc];exact Con.folds_no C hk.2 hfp
            exact ae_ Tryz.results149 () rfl (@List.perm_append_comm _ [_,_] _) zt
    · skip
      refine jH_ (ι:=Unit) (fun _=>[(1,.func (.yield l) #[] #[]),(2,zp_ A 0),(10,.bool true)]) (fun _=>(A,.cells (Con.mk k nm lo hi ad cap ps).cells.toArray 40 (0,0))::N I) (fun _=>[(Con.mk k nm lo hi ad cap ps).memF]++E) ?_ fun _=>?_
      · skip
        refine aI_ ?_;refine R_ cX_ (al_ rfl) rfl rfl ?_;refine R_ cX_ (dc_ (c:=.mk k nm lo hi ad cap ps) 0 aH_ I_ rfl rfl) rfl rfl ?_;refine hq_ (S s _ e Q) rfl rfl (@List.perm_append_comm _ [_] _) (fun v _ h=>h) rfl fun _=>?_;rw[hfc];refine R_ cX_ (ax_ rfl) rfl rfl ?_;refine bn_ ?_;refine do_ rfl ?_;exact fh_ () zl (F:=[]) zO_ zh
      · skip
        refine Zz 8 ?_;obtain rfl:r=.inr I:=by rw[← O,Con.fold_eq,hfc]
        exact ae_ Tryz.results149 () rfl (@List.perm_append_comm _ [_] _) zt
theorem uo_ (c:Con) :
    Tri Tryz.prog 101 #[c.val] [] [] (fun b:Nat=>.func (.func 148) #[] #[zp_ b 0]) (fun b=>[(b,.cells c.cells.toArray 40 (0,0))]) (fun _=>[]):=by
  refine i_ Tryz.func101 rfl rfl Tryz.ntmps101 rfl fun e=>?_;refine Zz 2 ?_;refine aa_ rfl rfl fun d=>Zz 5 ?_
  refine e_ (bI_ rfl rfl) rfl (Zz 4 ?_);exact ae_ Tryz.results101 d rfl (F:=[]) (.refl _) zt
theorem sn_ {σ τ:Type} {l b:Nat} {e:σ→Hp} {m:τ→Hp} {stp:Con→σ→σ ⊕ τ} {E:List Fct} {good:Con→Prop} (d:∀ c p,good c→p∈c.parts→good p)
    (y:∀ s x,x.ok→good x→iT_ Tryz.prog l x.val (e s) (x.memF::E) (fun _:Unit=>.bool (stp x s).isLeft) (fun _=>nh_ e m (stp x s)) (fun _=>[]))
    (c:Con) (k:c.ok) (q:good c) (s:σ) :
    Tri Tryz.prog 148 #[.func (.yield l) #[] #[],zp_ b 0] ((b,.cells c.cells.toArray 40 (0,0))::e s) (c.memF::E) (fun _:Unit=>.tuple #[]) (fun _=>(b,.cells c.cells.toArray 40 (0,0))::nh_ e m (Con.fold stp c s)) (fun _=>[]):=by
  refine i_ Tryz.func148 rfl rfl Tryz.ntmps148 rfl fun A=>?_;refine aG_ (e_ (dc_ (c:=c) 0 aH_ I_ rfl rfl) rfl (Zz 1 ?_));refine g_ (ww_ d y _ c (Nat.le_refl _) k q s _ rfl) rfl (@List.perm_append_comm _ [_] _) (fun v _ h=>h) rfl fun _=>Zz 2 ?_
  exact cl_ Tryz.results148 () rfl (F:=[]) zO_ zt
theorem lY_ {G:Prop} (h:G:=by
 exact yk_ (G:=[_,_,_]) () (fun a v y q=>by rw[← N];exact pX_ 1 Tryz.results63 Tryz.isAgg29 rfl rfl a v y q) (go_ (i:=3) rfl) ⟨_,.refl _⟩ rfl):G:=h
theorem eM_ (c:Con) (I:c.ok):Tri Tryz.prog 63 #[c.val] [] [c.memF,cj_] (fun _:Unit=>.int .i64 c.check) (fun _=>[]) (fun _=>[]):=by
 obtain⟨k,nm,lo,hi,ad,cap,ps⟩:=c;refine hh_ Tryz.func63 rfl rfl Tryz.ntmps63 rfl fun H=>?_;refine Zz 2 ?_;refine aa_ rfl rfl fun V=>G_ Tryz.zeroValue29 rfl fun e=>Zz 4 ?_
 refine G_ kk_ rfl fun L=>u_ 0 ak_ rfl rfl rfl rfl rfl rfl (Zz 6 ?_)
 refine mL_ 0 (fits_c _ (.mk k nm lo hi ad cap ps) (Nat.le_refl _) I 0 0 L za_ za_ _ rfl) rfl rfl zf rfl fun Q B=>e_ (ax_ rfl) rfl (Zz 2 ?_)
 cases Q
 ·try dsimp only[Con.kind,Con.parts,Con.name,Con.lo,Con.hi,Con.cap,Con.ad]at B
  refine Zz 3 ?_;refine u_ 1 Tryz.sizeOf29 rfl rfl rfl rfl rfl rfl (Zz 3 ?_);exact retM () (fun a v y q _=>by rw[pX_ 1 Tryz.results63 Tryz.isAgg29 rfl rfl a v y q];simp[Con.check, *]) (.refl _) zt
 try dsimp only[Con.kind,Con.parts,Con.name,Con.lo,Con.hi,Con.cap,Con.ad]at B
 refine Zz 7 ?_;refine g_ (uo_ (.mk k nm lo hi ad cap ps)) rfl (.refl _) zt rfl fun b=>Zz 3 ?_
 refine bt_ [(2,zp_ e 0),(10,.func (.func 148) #[] #[zp_ b 0])] zl ?_;refine dG_ (H':=[_,_]) (F:=[_,_]) (.cons _ (.swap _ _ _)) zh ?_;refine tl_ (α:={c:Con // c.ok}) (xv:=fun x=>x.1.val) (good:=fun _=>True) (stp:=fun x=>Con.chk x.1) (Γx:=fun x=>[x.1.memF,cj_]) (Γi:=[Con.memF (.mk k nm lo hi ad cap ps),cj_]) (Hj:=fun _:Unit=>[(e,.cells #[.int .i64 0] 29 (0,0))]) (Hx:=fun t:Int=>[(e,.cells #[.int .i64 t] 29 (0,0))]) (Hc:=[(b,.cells (Con.mk k nm lo hi ad cap ps).cells.toArray 40 (0,0))]) (caps:=[zp_ b 0]) () (Con.fold Con.chk (.mk k nm lo hi ad cap ps) ()) rfl (.refl _) (fun v _ h=>h) ?_ ?_ ?_ ?_
 ·rintro l D S U O K X J C s ⟨x,R⟩ -
  refine ma_ (ι:=Nat) (Hj:=fun _:Unit=>[(e,.cells #[.int .i64 0] 29 (0,0))]) (Hx:=fun t:Int=>[(e,.cells #[.int .i64 t] 29 (0,0))]) (s:=s) (res:=Con.chk x s) (Γ:=[x.memF,cj_]) (fun m=>[(2,zp_ e 0),(4,zp_ m 0)]) (fun m=>[(m,.cells x.cells.toArray 40 (0,0)),(e,.cells #[.int .i64 0] 29 (0,0))]) U O K X rfl ?_ ?_
  ·intro n H P W
   rw[J];refine aI_ ?_;refine mM_ (K_ _) bT_ rfl fun m=>?_;refine qk_ (K_ _) 0 I_ rfl rfl rfl rfl ?_;refine bn_ ?_;refine do_ rfl ?_;exact fh_ m zl (F:=[]) zT_ zh
  intro n H P W m;rw[C];refine ep_ ?_;refine cV_ ?_;refine aI_ ?_;refine R_ (K_ _) (dc_ 0 aH_ I_ rfl rfl) rfl rfl ?_;refine tG_ (nF_ x R) rfl (.refl _) zf rfl fun _=>?_;refine R_ (K_ _) (ay_ rfl) rfl rfl ?_;refine bn_ ?_;refine cd_ rfl ?_;refine cV_ ?_;refine aI_ ?_;refine R_ (K_ _) (al_ rfl) rfl rfl ?_;refine tE_ (K_ _) (bU_ rfl rfl) rfl rfl fun M d=>?_;refine bn_ ?_;refine cd_ rfl ?_;cases M
  ·replace d:=fi_ d
   try dsimp only[Con.kind,Con.parts,Con.name,Con.lo,Con.hi,Con.cap,Con.ad]at d
   refine ll_ rfl ?_;refine nR_ ?_;refine do_ rfl ?_;exact fL_ () (by simp[Con.chk, *]) (G:=[_]) (@List.perm_append_comm _ [_] _)
  replace d:=fg_ d;try dsimp only[Con.kind,Con.parts,Con.name,Con.lo,Con.hi,Con.cap,Con.ad]at d
  refine fq_ rfl ?_;refine cV_ ?_;refine aI_ ?_;refine R_ (K_ _) (al_ rfl) rfl rfl ?_;refine fW_ (K_ _) 1 Tryz.sizeOf29 rfl rfl rfl rfl rfl rfl ?_;refine bn_ ?_;refine cd_ rfl ?_;refine my_ ?_;exact to_ x.fieldErr (by simp[Con.chk, *]) (G:=[_]) (@List.perm_append_comm _ [_] _)
 ·intro l Z Y T
  exact sn_ (E:=[cj_]) (good:=fun _=>True) (fun _ _ _ _=>trivial) (fun s x R _=>T s ⟨x,R⟩ trivial) _ I trivial ()
 ·intro s A D l r
  rw[Con.fold_chk _ _ (Nat.le_refl _)]at A;refine cd_ rfl ?_;refine cV_ ?_;refine aI_ ?_;refine fW_ cX_ 1 Tryz.sizeOf29 rfl rfl rfl rfl rfl rfl ?_;refine bn_ ?_;refine cd_ rfl ?_;refine my_ ?_;have N:(0:Int)=(Con.mk k nm lo hi ad cap ps).check:=by unfold Con.check;rw[if_pos zi_];split at A;(rename_i h;exact h.symm);cases A
  exact lY_
 intro t A D l r;rw[Con.fold_chk _ _ (Nat.le_refl _)]at A;have N:t=(Con.mk k nm lo hi ad cap ps).check:=by unfold Con.check;rw[if_pos zi_];split at A;cases A;injection A with A;exact A.symm
 exact lY_
theorem jc_ {G:Prop} (h:G:=by
 refine Zz 6 ?_;exact met ⟨rfl,rfl,rfl,(n_ rfl (jaf d)),trivial⟩):G:=h
theorem ok_ (c:Con):Fn0 Tryz.prog 98 #[c.val] (.bool c.empty):=by
 obtain⟨k,nm,lo,hi,ad,cap,ps⟩:=c;refine i_ Tryz.func98 rfl rfl Tryz.ntmps98 rfl fun G=>?_;refine Zz 2 ?_;refine aa_ rfl rfl fun x=>Zz 7 ?_
 refine B_ (bJ_ rfl rfl) rfl fun E m=>Zz 1 ?_
 refine ai_ 4 ((k==0)&&(nm==[])) (fun r=>[(0,.agg (Con.cells (Con.mk k nm lo hi ad cap ps)).toArray),(1,zp_ x 0),(2,.bool false),(10,.bool r)]) ?_ fun F q=>?_
 ·cases E
  ·have d:=m
   replace m:=znb m;try dsimp only[Con.kind,Con.parts,Con.name,Con.lo,Con.hi,Con.cap,Con.ad]at m
   exact jc_
  have d:=m;replace m:=zeb m;try dsimp only[Con.kind,Con.parts,Con.name,Con.lo,Con.hi,Con.cap,Con.ad]at m
  refine Zz 5 ?_;refine B_ (cT_ rfl rfl) rfl fun y e=>Zz 3 ?_
  exact met ⟨rfl,rfl,rfl,(n_ rfl (jat d e)),trivial⟩
 refine Zz 1 ?_;refine ai_ 4 ((((k==0)&&(nm==[])))&&(lo==0)) (fun r=>[(0,.agg (Con.cells (Con.mk k nm lo hi ad cap ps)).toArray),(1,zp_ x 0),(2,.bool false),(15,.bool r)]) ?_ fun y e=>?_
 ·cases F
  ·have d:=q
   simp at q
   try dsimp only[Con.kind,Con.parts,Con.name,Con.lo,Con.hi,Con.cap,Con.ad]at q
   exact jc_
  have d:=q;simp at q
  try dsimp only[Con.kind,Con.parts,Con.name,Con.lo,Con.hi,Con.cap,Con.ad]at q
  refine Zz 5 ?_;refine B_ (bJ_ rfl rfl) rfl fun B h=>Zz 3 ?_
  exact met ⟨rfl,rfl,rfl,(n_ rfl (jat d h)),trivial⟩
 refine Zz 1 ?_;refine ai_ 4 ((((((k==0)&&(nm==[])))&&(lo==0)))&&(hi==0)) (fun r=>[(0,.agg (Con.cells (Con.mk k nm lo hi ad cap ps)).toArray),(1,zp_ x 0),(2,.bool false),(20,.bool r)]) ?_ fun B h=>?_
 ·cases y
  ·have d:=e
   simp at e
   try dsimp only[Con.kind,Con.parts,Con.name,Con.lo,Con.hi,Con.cap,Con.ad]at e
   exact jc_
  have d:=e;simp at e
  try dsimp only[Con.kind,Con.parts,Con.name,Con.lo,Con.hi,Con.cap,Con.ad]at e
  refine Zz 5 ?_;refine B_ (bJ_ rfl rfl) rfl fun C v=>Zz 3 ?_
  exact met ⟨rfl,rfl,rfl,(n_ rfl (jat d v)),trivial⟩
 refine Zz 1 ?_;refine ai_ 5 ((((((((k==0)&&(nm==[])))&&(lo==0)))&&(hi==0)))&&((ps.length:Int)==0)) (fun r=>[(0,.agg (Con.cells (Con.mk k nm lo hi ad cap ps)).toArray),(2,.bool false),(26,.bool r)]) ?_ fun C v=>?_
 ·cases B
  ·have d:=h
   simp at h
   try dsimp only[Con.kind,Con.parts,Con.name,Con.lo,Con.hi,Con.cap,Con.ad]at h
   refine Zz 7 ?_;exact met ⟨rfl,rfl,(n_ rfl (jaf d)),trivial⟩
  have d:=h;simp at h
  try dsimp only[Con.kind,Con.parts,Con.name,Con.lo,Con.hi,Con.cap,Con.ad]at h
  refine Zz 7 ?_;refine B_ (bJ_ rfl rfl) rfl fun H A=>Zz 3 ?_
  exact met ⟨rfl,rfl,(n_ rfl (jat d A)),trivial⟩
 refine Zz 4 ?_;exact ae_ Tryz.results98 () (n_ rfl v.symm) (.refl _) zt
theorem oZ_ {g:FuncId} {pred:Con→Bool} (c:Con) (B:c.ok) (F:∀ p∈c.parts,Tri Tryz.prog g #[p.val] [] [p.memF] (fun _:Unit=>.bool (pred p)) (fun _=>[]) (fun _=>[])) :
    Tri Tryz.prog 150 #[.slice c.ad c.parts.length c.cap,.func (.func g) #[] #[]] [] [c.memF] (fun r:{r:Int // decide (0≤r)=c.parts.any pred}=>.int .i64 r.1) (fun _=>[]) (fun _=>[]):=by
  obtain⟨k,nm,lo,hi,ad,cap,ps⟩:=c;have y:=Con.ok_len B;simp only[Con.parts,Con.cap]at y;refine i_ Tryz.func150 rfl rfl Tryz.ntmps150 rfl fun E=>?_;refine Zz 14 ?_;refine bt_ [(0,.slice ad ps.length cap),(1,.func (.func g) #[] #[]),(7,.int .i64 (ps.length:Int)),(8,.int .i64 ((0:Nat):Int))] zl ?_;refine bQ_ (ι:={q:Nat // q≤ps.length∧(ps.take q).any pred=false}) (fun i=>[(0,.slice ad ps.length cap),(1,.func (.func g) #[] #[]),(7,.int .i64 (ps.length:Int)),(8,.int .i64 (i.1:Int))]) (fun _=>_) (fun _=>_) (fun i=>ps.length - i.1) ⟨0,by simp⟩ ?_;rintro ⟨i,hk⟩;refine bt_ [(0,.slice ad ps.length cap),(1,.func (.func g) #[] #[]),(7,.int .i64 (ps.length:Int)),(8,.int .i64 (i:Int))] zl ?_;refine Zj 2 (fun m=>?_) fun m=>?_
  · skip
    refine Zz 12 ?_;exact ae_ Tryz.results150 ⟨-1,by have:=hk.2;rw[List.take_of_length_le za_]at this;show _=ps.any pred;rw[this];rfl⟩ rfl (.refl _) zt
  · skip
    have x:i<ps.length:=by omega
    obtain⟨p,A⟩:∃ p,ps[i]? = some p:=⟨_,List.getElem?_eq_getElem x⟩;have e:p∈ps:=List.mem_of_getElem? A;refine Zz 19 ?_;refine e_ (Q_ ad_ I_ rfl rfl (fun v _ h=>as_ (n:=5) Con.cells_len ze_ (((Con.mem_iff (.mk k nm lo hi ad cap ps) v).1 h.1).1) A) za_ zg_) rfl ?_;refine e_ (aj_ (ad:=ad) (us:=p.cells) aH_ I_ rfl (fun v _ h=>((Con.mem_iff (.mk k nm lo hi ad cap ps) v).1 h.1).1) (Con.cells_len _) (o_ Con.cells_len A)) rfl (bH_ (F p e) rfl rfl (.refl _) (fun v _ h=>by exact⟨Con.mem_part (c:=(.mk k nm lo hi ad cap ps)) h.1 e,trivial⟩) rfl fun C d=>Zz 2 ?_);cases C
    · skip
      try dsimp only[Con.kind,Con.parts,Con.name,Con.lo,Con.hi,Con.cap,Con.ad]at d
      refine Zz 8 ?_;exact x_ ⟨i+1,x,by rw[Con.take_snoc A,List.any_append,hk.2];simp[*]⟩ zn_ zl (.refl _) zh
    · skip
      try dsimp only[Con.kind,Con.parts,Con.name,Con.lo,Con.hi,Con.cap,Con.ad]at d
      refine Zz 8 ?_;exact ae_ Tryz.results150 ⟨(i:Int),by show _=ps.any pred;rw[show ps.any pred=true from List.any_eq_true.2 ⟨p,e,by assumption⟩];exact decide_eq_true za_⟩ rfl (.refl _) zt
theorem lJ_ {g:FuncId} {pred:Con→Bool} (c:Con) (d:c.ok) (m:∀ p∈c.parts,Tri Tryz.prog g #[p.val] [] [p.memF] (fun _:Unit=>.bool (pred p)) (fun _=>[]) (fun _=>[])) :
    Tri Tryz.prog 103 #[.slice c.ad c.parts.length c.cap,.func (.func g) #[] #[]] [] [c.memF] (fun _:Unit=>.bool (c.parts.any pred)) (fun _=>[]) (fun _=>[]):=by
  obtain⟨k,nm,lo,hi,ad,cap,ps⟩:=c;refine i_ Tryz.func103 rfl rfl Tryz.ntmps103 rfl fun q=>?_;refine Zz 9 ?_;refine g_ (oZ_ (.mk k nm lo hi ad cap ps) d m) rfl (.refl _) (fun v _ h=>h) rfl fun x=>B_ (eB_ rfl rfl) rfl fun y e=>Zz 4 ?_
  exact ae_ Tryz.results103 () (n_ rfl (e.symm.trans x.2)) (.refl _) zt
theorem dJ_:∀ (m:Nat) (c:Con),c.sz≤m→c.ok→Tri Tryz.prog 64 #[c.val] [] [c.memF] (fun _:Unit=>.bool c.bare) (fun _=>[]) (fun _=>[]):=by
 intro m
 induction m with
 | zero=>intro c h;have:=c.sz_pos;omega
 | succ m ih =>
   intro c hm e;obtain⟨k,nm,lo,hi,ad,cap,ps⟩:=c;refine i_ Tryz.func64 rfl rfl Tryz.ntmps64 rfl fun A=>?_;refine Zz 2 ?_;refine aa_ rfl rfl fun B=>Zj 13 (fun q=>?_) fun q=>?_
   · skip
     refine Zj 6 (fun d=>?_) fun d=>?_
     · skip
       refine Zz 12 ?_;exact ae_ Tryz.results64 () (n_ rfl zN_) (.refl _) zt
     · skip
       refine Zz 8 ?_;refine T_ (lJ_ (pred:=Con.bare) (.mk k nm lo hi ad cap ps) e (fun p y=>ih p (by have:=Con.sz_part (c:=(.mk k nm lo hi ad cap ps)) y;omega) (Con.ok_part (c:=(.mk k nm lo hi ad cap ps)) e y))) rfl (.refl _) (fun v _ h=>h) rfl fun C x=>?_;refine Zz 4 ?_;exact ae_ Tryz.results64 () (n_ rfl zN_) (.refl _) zt
   · skip
     refine Zz 10 ?_;exact ae_ Tryz.results64 () (n_ rfl zN_) (.refl _) zt
theorem hb_ {G:Prop} (h:G:=by
 refine Zz 7 ?_;exact met ⟨rfl,rfl,rfl,rfl,rfl,rfl,rfl,rfl,rfl,rfl,(n_ rfl (jot rfl)),trivial⟩):G:=h
theorem eP_ {G:Prop} (h:G:=by
 exact met ⟨rfl,rfl,rfl,rfl,rfl,rfl,rfl,rfl,rfl,(n_ rfl (jaf d)),trivial⟩):G:=h
theorem rK_ (x:Ax):Tri Tryz.prog 61 #[x.val] [] [cj_] (fun _:Unit=>.bool x.shaped) (fun _=>[]) (fun _=>[]):=by
 obtain⟨k,Y,⟨kl,Q,K,hl,al,cl,pl⟩,⟨P,O,H,L,N,J,M⟩,ad,cap,V,ro,a,b⟩:=x;refine i_ Tryz.func61 rfl rfl Tryz.ntmps61 rfl fun v_1=>?_;refine Zz 2 ?_;refine aa_ rfl rfl fun e=>Zz 8 ?_
 refine B_ (cY_ rfl rfl) rfl fun a9 C=>Zz 1 ?_
 refine ai_ 4 ((decide (k<1))||(decide (9<k))) (fun r=>[(0,.agg (Ax.cells (Ax.mk k Y (Con.mk kl Q K hl al cl pl) (Con.mk P O H L N J M) ad cap V ro a b)).toArray),(1,zp_ e 0),(2,.bool false),(11,.bool r)]) ?_ fun a7 T=>?_
 ·cases a9
  ·have d:=C
   replace C:=zdf C;try dsimp only[Con.kind,Con.parts,Con.name,Con.lo,Con.hi,Con.cap,Con.ad]at C
   refine Zz 5 ?_;refine B_ (dw_ rfl rfl) rfl fun a5 B=>Zz 3 ?_
   exact met (zm (jof d B))
  have d:=C;replace C:=zdt C;try dsimp only[Con.kind,Con.parts,Con.name,Con.lo,Con.hi,Con.cap,Con.ad]at C
  refine Zz 6 ?_;exact met ⟨rfl,rfl,rfl,(n_ rfl (jot d)),trivial⟩
 refine Zz 2 ?_;cases a7
 ·simp at T
  try dsimp only[Con.kind,Con.parts,Con.name,Con.lo,Con.hi,Con.cap,Con.ad]at T
  obtain⟨u,hx⟩:∃ u,tf_[k.toNat]? = some u:=⟨_,List.getElem?_eq_getElem (show k.toNat<10 by omega)⟩;have a8:us k=u:=by simp[us,hx]
  obtain⟨G,I,R,S,ub,W,X⟩:=u;refine Zz 7 ?_;refine e_ (dV_ Tryz.runUnderlying96 jx_ rfl rfl zaI_ (by show k<(10:Int);omega)) rfl ?_;refine e_ (aj_ (ad:=some ⟨0,0,none⟩) (us:=Use.cells ⟨G,I,R,S,ub,W,X⟩) Tryz.isAgg95 jx_ rfl (fun v _ h=>h.1.2.1) (Use.cells_len _) (o_ Use.cells_len hx)) rfl (G_ Tryz.zeroValue95 rfl fun F=>u_ 0 jx_ rfl rfl rfl rfl rfl rfl (Zz 7 ?_));refine ai_ 4 ((G)||(Con.empty (.mk kl Q K hl al cl pl))) (fun r=>[(0,.agg (Ax.cells (Ax.mk k Y (Con.mk kl Q K hl al cl pl) (Con.mk P O H L N J M) ad cap V ro a b)).toArray),(1,zp_ e 0),(2,.bool false),(11,.bool false),(12,zp_ e 0),(13,.int .i64 k),(14,.pointer (some (rad (some ⟨0,0,none⟩) (k.toNat*7)))),(15,.agg #[.bool G,.bool I,.bool R,.bool S,.bool ub,.int .i64 W,.int .i64 X]),(3,zp_ F 0),(22,.bool r)]) ?_ fun a5 B=>?_
  ·cases G
   ·try dsimp only[Con.kind,Con.parts,Con.name,Con.lo,Con.hi,Con.cap,Con.ad]at hul
    refine Zz 5 ?_;refine T_ (ok_ (.mk kl Q K hl al cl pl)) rfl (.refl _) zt rfl fun a4 E=>Zz 3 ?_
    exact met (zm (jof rfl E))
   try dsimp only[Con.kind,Con.parts,Con.name,Con.lo,Con.hi,Con.cap,Con.ad]at hul
   refine Zz 6 ?_;exact met ⟨rfl,rfl,rfl,rfl,rfl,rfl,rfl,rfl,rfl,(n_ rfl (jot rfl)),trivial⟩
  refine Zz 1 ?_;refine ai_ 8 ((((G)||(Con.empty (.mk kl Q K hl al cl pl))))&&(((I)||(Con.empty (.mk P O H L N J M))))) (fun r=>[(0,.agg (Ax.cells (Ax.mk k Y (Con.mk kl Q K hl al cl pl) (Con.mk P O H L N J M) ad cap V ro a b)).toArray),(1,zp_ e 0),(2,.bool false),(11,.bool false),(12,zp_ e 0),(13,.int .i64 k),(14,.pointer (some (rad (some ⟨0,0,none⟩) (k.toNat*7)))),(15,.agg #[.bool G,.bool I,.bool R,.bool S,.bool ub,.int .i64 W,.int .i64 X]),(3,zp_ F 0),(31,.bool r)]) ?_ fun a4 E=>?_
  ·cases a5
   ·have d:=B
    simp at B
    try dsimp only[Con.kind,Con.parts,Con.name,Con.lo,Con.hi,Con.cap,Con.ad]at B
    refine Zz 10 ?_;exact eP_
   have d:=B;simp at B
   try dsimp only[Con.kind,Con.parts,Con.name,Con.lo,Con.hi,Con.cap,Con.ad]at B
   refine Zz 6 ?_;refine ai_ 4 ((I)||(Con.empty (.mk P O H L N J M))) (fun r=>[(0,.agg (Ax.cells (Ax.mk k Y (Con.mk kl Q K hl al cl pl) (Con.mk P O H L N J M) ad cap V ro a b)).toArray),(1,zp_ e 0),(2,.bool false),(11,.bool false),(12,zp_ e 0),(13,.int .i64 k),(14,.pointer (some (rad (some ⟨0,0,none⟩) (k.toNat*7)))),(15,.agg #[.bool G,.bool I,.bool R,.bool S,.bool ub,.int .i64 W,.int .i64 X]),(3,zp_ F 0),(23,.bool true),(30,.bool r)]) ?_ fun a3 A=>?_
   ·cases I
    ·try dsimp only[Con.kind,Con.parts,Con.name,Con.lo,Con.hi,Con.cap,Con.ad]at hur
     refine Zz 5 ?_;refine T_ (ok_ (.mk P O H L N J M)) rfl (.refl _) zt rfl fun a2 y=>Zz 4 ?_
     exact met (zm (jof rfl y))
    try dsimp only[Con.kind,Con.parts,Con.name,Con.lo,Con.hi,Con.cap,Con.ad]at hur
    exact hb_
   refine Zz 3 ?_;exact met ⟨rfl,rfl,rfl,rfl,rfl,rfl,rfl,rfl,rfl,(n_ rfl (jat d A)),trivial⟩
  refine Zz 1 ?_;refine ai_ 8 ((((((G)||(Con.empty (.mk kl Q K hl al cl pl))))&&(((I)||(Con.empty (.mk P O H L N J M))))))&&(((R)||(ro==[])))) (fun r=>[(0,.agg (Ax.cells (Ax.mk k Y (Con.mk kl Q K hl al cl pl) (Con.mk P O H L N J M) ad cap V ro a b)).toArray),(1,zp_ e 0),(2,.bool false),(11,.bool false),(12,zp_ e 0),(13,.int .i64 k),(14,.pointer (some (rad (some ⟨0,0,none⟩) (k.toNat*7)))),(15,.agg #[.bool G,.bool I,.bool R,.bool S,.bool ub,.int .i64 W,.int .i64 X]),(3,zp_ F 0),(40,.bool r)]) ?_ fun a3 A=>?_
  ·cases a4
   ·have d:=E
    simp at E
    try dsimp only[Con.kind,Con.parts,Con.name,Con.lo,Con.hi,Con.cap,Con.ad]at E
    refine Zz 10 ?_;exact eP_
   have d:=E;simp at E
   try dsimp only[Con.kind,Con.parts,Con.name,Con.lo,Con.hi,Con.cap,Con.ad]at E
   refine Zz 6 ?_;refine ai_ 4 ((R)||(ro==[])) (fun r=>[(0,.agg (Ax.cells (Ax.mk k Y (Con.mk kl Q K hl al cl pl) (Con.mk P O H L N J M) ad cap V ro a b)).toArray),(1,zp_ e 0),(2,.bool false),(11,.bool false),(12,zp_ e 0),(13,.int .i64 k),(14,.pointer (some (rad (some ⟨0,0,none⟩) (k.toNat*7)))),(15,.agg #[.bool G,.bool I,.bool R,.bool S,.bool ub,.int .i64 W,.int .i64 X]),(3,zp_ F 0),(32,.bool true),(39,.bool r)]) ?_ fun a2 y=>?_
   ·cases R
    ·try dsimp only[Con.kind,Con.parts,Con.name,Con.lo,Con.hi,Con.cap,Con.ad]at huo
     refine Zz 5 ?_;refine B_ (cT_ rfl rfl) rfl fun a0 q=>Zz 4 ?_
     exact met (zm (jof rfl q))
    try dsimp only[Con.kind,Con.parts,Con.name,Con.lo,Con.hi,Con.cap,Con.ad]at huo
    exact hb_
   refine Zz 3 ?_;exact met ⟨rfl,rfl,rfl,rfl,rfl,rfl,rfl,rfl,rfl,(n_ rfl (jat d y)),trivial⟩
  refine Zz 1 ?_;refine ai_ 8 ((((((((G)||(Con.empty (.mk kl Q K hl al cl pl))))&&(((I)||(Con.empty (.mk P O H L N J M))))))&&(((R)||(ro==[])))))&&(((S)||(a==[])))) (fun r=>[(0,.agg (Ax.cells (Ax.mk k Y (Con.mk kl Q K hl al cl pl) (Con.mk P O H L N J M) ad cap V ro a b)).toArray),(1,zp_ e 0),(2,.bool false),(11,.bool false),(12,zp_ e 0),(13,.int .i64 k),(14,.pointer (some (rad (some ⟨0,0,none⟩) (k.toNat*7)))),(15,.agg #[.bool G,.bool I,.bool R,.bool S,.bool ub,.int .i64 W,.int .i64 X]),(3,zp_ F 0),(49,.bool r)]) ?_ fun a2 y=>?_
  ·cases a3
   ·have d:=A
    simp at A
    try dsimp only[Con.kind,Con.parts,Con.name,Con.lo,Con.hi,Con.cap,Con.ad]at A
    refine Zz 10 ?_;exact eP_
   have d:=A;simp at A
   try dsimp only[Con.kind,Con.parts,Con.name,Con.lo,Con.hi,Con.cap,Con.ad]at A
   refine Zz 6 ?_;refine ai_ 4 ((S)||(a==[])) (fun r=>[(0,.agg (Ax.cells (Ax.mk k Y (Con.mk kl Q K hl al cl pl) (Con.mk P O H L N J M) ad cap V ro a b)).toArray),(1,zp_ e 0),(2,.bool false),(11,.bool false),(12,zp_ e 0),(13,.int .i64 k),(14,.pointer (some (rad (some ⟨0,0,none⟩) (k.toNat*7)))),(15,.agg #[.bool G,.bool I,.bool R,.bool S,.bool ub,.int .i64 W,.int .i64 X]),(3,zp_ F 0),(41,.bool true),(48,.bool r)]) ?_ fun a0 q=>?_
   ·cases S
    ·try dsimp only[Con.kind,Con.parts,Con.name,Con.lo,Con.hi,Con.cap,Con.ad]at hua
     refine Zz 5 ?_;refine B_ (cT_ rfl rfl) rfl fun a1 m=>Zz 4 ?_
     exact met (zm (jof rfl m))
    try dsimp only[Con.kind,Con.parts,Con.name,Con.lo,Con.hi,Con.cap,Con.ad]at hua
    exact hb_
   refine Zz 3 ?_;exact met ⟨rfl,rfl,rfl,rfl,rfl,rfl,rfl,rfl,rfl,(n_ rfl (jat d q)),trivial⟩
  refine Zz 1 ?_;refine ai_ 8 ((((((((((G)||(Con.empty (.mk kl Q K hl al cl pl))))&&(((I)||(Con.empty (.mk P O H L N J M))))))&&(((R)||(ro==[])))))&&(((S)||(a==[])))))&&(((ub)||(b==[])))) (fun r=>[(0,.agg (Ax.cells (Ax.mk k Y (Con.mk kl Q K hl al cl pl) (Con.mk P O H L N J M) ad cap V ro a b)).toArray),(1,zp_ e 0),(2,.bool false),(11,.bool false),(12,zp_ e 0),(13,.int .i64 k),(14,.pointer (some (rad (some ⟨0,0,none⟩) (k.toNat*7)))),(15,.agg #[.bool G,.bool I,.bool R,.bool S,.bool ub,.int .i64 W,.int .i64 X]),(3,zp_ F 0),(58,.bool r)]) ?_ fun a0 q=>?_
  ·cases a2
   ·have d:=y
    simp at y
    try dsimp only[Con.kind,Con.parts,Con.name,Con.lo,Con.hi,Con.cap,Con.ad]at y
    refine Zz 10 ?_;exact eP_
   have d:=y;simp at y
   try dsimp only[Con.kind,Con.parts,Con.name,Con.lo,Con.hi,Con.cap,Con.ad]at y
   refine Zz 6 ?_;refine ai_ 4 ((ub)||(b==[])) (fun r=>[(0,.agg (Ax.cells (Ax.mk k Y (Con.mk kl Q K hl al cl pl) (Con.mk P O H L N J M) ad cap V ro a b)).toArray),(1,zp_ e 0),(2,.bool false),(11,.bool false),(12,zp_ e 0),(13,.int .i64 k),(14,.pointer (some (rad (some ⟨0,0,none⟩) (k.toNat*7)))),(15,.agg #[.bool G,.bool I,.bool R,.bool S,.bool ub,.int .i64 W,.int .i64 X]),(3,zp_ F 0),(50,.bool true),(57,.bool r)]) ?_ fun a1 m=>?_
   ·cases ub
    ·try dsimp only[Con.kind,Con.parts,Con.name,Con.lo,Con.hi,Con.cap,Con.ad]at hub
     refine Zz 5 ?_;refine B_ (cT_ rfl rfl) rfl fun a6 U=>Zz 4 ?_
     exact met (zm (jof rfl U))
    try dsimp only[Con.kind,Con.parts,Con.name,Con.lo,Con.hi,Con.cap,Con.ad]at hub
    exact hb_
   refine Zz 3 ?_;exact met ⟨rfl,rfl,rfl,rfl,rfl,rfl,rfl,rfl,rfl,(n_ rfl (jat d m)),trivial⟩
  refine Zz 1 ?_;refine ai_ 7 ((((((((((((G)||(Con.empty (.mk kl Q K hl al cl pl))))&&(((I)||(Con.empty (.mk P O H L N J M))))))&&(((R)||(ro==[])))))&&(((S)||(a==[])))))&&(((ub)||(b==[])))))&&(decide (W≤(V.length:Int)))) (fun r=>[(0,.agg (Ax.cells (Ax.mk k Y (Con.mk kl Q K hl al cl pl) (Con.mk P O H L N J M) ad cap V ro a b)).toArray),(1,zp_ e 0),(2,.bool false),(11,.bool false),(12,zp_ e 0),(13,.int .i64 k),(14,.pointer (some (rad (some ⟨0,0,none⟩) (k.toNat*7)))),(15,.agg #[.bool G,.bool I,.bool R,.bool S,.bool ub,.int .i64 W,.int .i64 X]),(3,zp_ F 0),(66,.bool r)]) ?_ fun a1 m=>?_
  ·cases a0
   ·have d:=q
    simp at q
    try dsimp only[Con.kind,Con.parts,Con.name,Con.lo,Con.hi,Con.cap,Con.ad]at q
    refine Zz 9 ?_;exact eP_
   have d:=q;simp at q
   try dsimp only[Con.kind,Con.parts,Con.name,Con.lo,Con.hi,Con.cap,Con.ad]at q
   refine Zz 11 ?_;refine B_ (eB_ rfl rfl) rfl fun a6 U=>Zz 3 ?_
   exact met ⟨rfl,rfl,rfl,rfl,rfl,rfl,rfl,rfl,rfl,(n_ rfl (jat d U)),trivial⟩
  refine Zz 1 ?_;refine ai_ 7 ((((((((((((((G)||(Con.empty (.mk kl Q K hl al cl pl))))&&(((I)||(Con.empty (.mk P O H L N J M))))))&&(((R)||(ro==[])))))&&(((S)||(a==[])))))&&(((ub)||(b==[])))))&&(decide (W≤(V.length:Int)))))&&(decide ((V.length:Int)≤X))) (fun r=>[(0,.agg (Ax.cells (Ax.mk k Y (Con.mk kl Q K hl al cl pl) (Con.mk P O H L N J M) ad cap V ro a b)).toArray),(1,zp_ e 0),(2,.bool false),(11,.bool false),(12,zp_ e 0),(13,.int .i64 k),(14,.pointer (some (rad (some ⟨0,0,none⟩) (k.toNat*7)))),(15,.agg #[.bool G,.bool I,.bool R,.bool S,.bool ub,.int .i64 W,.int .i64 X]),(3,zp_ F 0),(74,.bool r)]) ?_ fun a6 U=>?_
  ·cases a1
   ·have d:=m
    simp at m
    try dsimp only[Con.kind,Con.parts,Con.name,Con.lo,Con.hi,Con.cap,Con.ad]at m
    refine Zz 9 ?_;exact eP_
   have d:=m;simp at m
   try dsimp only[Con.kind,Con.parts,Con.name,Con.lo,Con.hi,Con.cap,Con.ad]at m
   refine Zz 11 ?_;refine B_ (de_ rfl rfl) rfl fun b0 Z=>Zz 3 ?_
   exact met ⟨rfl,rfl,rfl,rfl,rfl,rfl,rfl,rfl,rfl,(n_ rfl (jat d Z)),trivial⟩
  refine Zz 4 ?_;exact ae_ Tryz.results61 () (n_ rfl (by unfold Ax.shaped;rw[if_neg (by simp only[not_or];omega)];simp only[a8];exact U.symm)) (.refl _) zt
 simp at T
 try dsimp only[Con.kind,Con.parts,Con.name,Con.lo,Con.hi,Con.cap,Con.ad]at T
 refine Zz 7 ?_;exact ae_ Tryz.results61 () (n_ rfl (by unfold Ax.shaped;rw[if_pos (by simpa using T)])) (.refl _) zt
theorem pn (s:Str):(((if aM_ s then 0 else 20):Int) != 0)=!aM_ s:=by cases aM_ s<;>rfl
theorem tN_ (x:Ax) (H:x.ok) (u:Use):Tri Tryz.prog 62 #[x.val,.agg u.cells.toArray] [] [x.memF] (fun _:Unit=>.bool (x.namedU u)) (fun _=>[]) (fun _=>[]):=by
 obtain⟨k,K,⟨kl,nl,T,hl,al,cl,pl⟩,⟨kr,Z,M,V,Y,R,W⟩,ad,cap,y,ro,a,b⟩:=x;obtain⟨L,O,F,G,ub,S,un⟩:=u;have U:=H.len;have N:=H.cap;dsimp only at U N;refine i_ Tryz.func62 rfl rfl Tryz.ntmps62 rfl fun v_1=>?_;refine Zz 2 ?_;refine aa_ rfl rfl fun E=>aa_ rfl rfl fun J=>Zz 9 ?_
 refine ai_ 5 ((F)&&(!(bg_ ro))) (fun r=>[(0,.agg (Ax.cells (Ax.mk k K (Con.mk kl nl T hl al cl pl) (Con.mk kr Z M V Y R W) ad cap y ro a b)).toArray),(1,.agg #[.bool L,.bool O,.bool F,.bool G,.bool ub,.int .i64 S,.int .i64 un]),(2,zp_ E 0),(3,zp_ J 0),(4,.bool false),(14,.bool r)]) ?_ fun r_1 C=>?_
 ·cases F
  ·try dsimp only[Con.kind,Con.parts,Con.name,Con.lo,Con.hi,Con.cap,Con.ad]at huo
   refine Zz 7 ?_;exact met ⟨rfl,rfl,rfl,rfl,rfl,(n_ rfl (jaf rfl)),trivial⟩
  try dsimp only[Con.kind,Con.parts,Con.name,Con.lo,Con.hi,Con.cap,Con.ad]at huo
  refine Zz 5 ?_;refine T_ (gQ_ _) rfl (.refl _) zt rfl fun P m=>aR_ rfl rfl (e_ (ax_ rfl) rfl (Zz 3 ?_))
  exact met ⟨rfl,rfl,rfl,rfl,rfl,(n_ rfl (jat rfl (jn m))),trivial⟩
 refine Zz 1 ?_;refine ai_ 9 ((((F)&&(!(bg_ ro))))||(((G)&&(((if aM_ a then 0 else 20):Int) != 0)))) (fun r=>[(0,.agg (Ax.cells (Ax.mk k K (Con.mk kl nl T hl al cl pl) (Con.mk kr Z M V Y R W) ad cap y ro a b)).toArray),(1,.agg #[.bool L,.bool O,.bool F,.bool G,.bool ub,.int .i64 S,.int .i64 un]),(2,zp_ E 0),(3,zp_ J 0),(4,.bool false),(24,.bool r)]) ?_ fun P m=>?_
 ·cases r_1
  ·have e:=C
   try dsimp only[Con.kind,Con.parts,Con.name,Con.lo,Con.hi,Con.cap,Con.ad]at C
   refine Zz 6 ?_;refine ai_ 5 ((G)&&(((if aM_ a then 0 else 20):Int) != 0)) (fun r=>[(0,.agg (Ax.cells (Ax.mk k K (Con.mk kl nl T hl al cl pl) (Con.mk kr Z M V Y R W) ad cap y ro a b)).toArray),(1,.agg #[.bool L,.bool O,.bool F,.bool G,.bool ub,.int .i64 S,.int .i64 un]),(2,zp_ E 0),(3,zp_ J 0),(4,.bool false),(15,.bool false),(23,.bool r)]) ?_ fun X d=>?_
   ·cases G
    ·try dsimp only[Con.kind,Con.parts,Con.name,Con.lo,Con.hi,Con.cap,Con.ad]at hua
     refine Zz 8 ?_;exact met ⟨rfl,rfl,rfl,rfl,rfl,rfl,(n_ rfl (jaf rfl)),trivial⟩
    try dsimp only[Con.kind,Con.parts,Con.name,Con.lo,Con.hi,Con.cap,Con.ad]at hua
    refine Zz 5 ?_;refine g_ (gw_ _ H.a) rfl (.refl _) zt rfl fun _=>aR_ rfl rfl (B_ (bU_ rfl rfl) rfl fun I A=>Zz 4 ?_)
    exact met ⟨rfl,rfl,rfl,rfl,rfl,rfl,(n_ rfl (jat rfl A)),trivial⟩
   refine Zz 3 ?_;exact met (zm (jof e d))
  have e:=C;try dsimp only[Con.kind,Con.parts,Con.name,Con.lo,Con.hi,Con.cap,Con.ad]at C
  refine Zz 11 ?_;exact met ⟨rfl,rfl,rfl,rfl,rfl,(n_ rfl (jot e)),trivial⟩
 refine Zz 1 ?_;refine ai_ 9 ((((((F)&&(!(bg_ ro))))||(((G)&&(((if aM_ a then 0 else 20):Int) != 0)))))||(((ub)&&(((if aM_ b then 0 else 20):Int) != 0)))) (fun r=>[(0,.agg (Ax.cells (Ax.mk k K (Con.mk kl nl T hl al cl pl) (Con.mk kr Z M V Y R W) ad cap y ro a b)).toArray),(1,.agg #[.bool L,.bool O,.bool F,.bool G,.bool ub,.int .i64 S,.int .i64 un]),(2,zp_ E 0),(4,.bool false),(34,.bool r)]) ?_ fun X d=>?_
 ·cases P
  ·have e:=m
   try dsimp only[Con.kind,Con.parts,Con.name,Con.lo,Con.hi,Con.cap,Con.ad]at m
   refine Zz 6 ?_;refine ai_ 5 ((ub)&&(((if aM_ b then 0 else 20):Int) != 0)) (fun r=>[(0,.agg (Ax.cells (Ax.mk k K (Con.mk kl nl T hl al cl pl) (Con.mk kr Z M V Y R W) ad cap y ro a b)).toArray),(1,.agg #[.bool L,.bool O,.bool F,.bool G,.bool ub,.int .i64 S,.int .i64 un]),(2,zp_ E 0),(4,.bool false),(25,.bool false),(33,.bool r)]) ?_ fun I A=>?_
   ·cases ub
    ·try dsimp only[Con.kind,Con.parts,Con.name,Con.lo,Con.hi,Con.cap,Con.ad]at hub
     refine Zz 8 ?_;exact met ⟨rfl,rfl,rfl,rfl,rfl,(n_ rfl (jaf rfl)),trivial⟩
    try dsimp only[Con.kind,Con.parts,Con.name,Con.lo,Con.hi,Con.cap,Con.ad]at hub
    refine Zz 5 ?_;refine g_ (gw_ _ H.b) rfl (.refl _) zt rfl fun _=>aR_ rfl rfl (B_ (bU_ rfl rfl) rfl fun r_5 B=>Zz 4 ?_)
    exact met ⟨rfl,rfl,rfl,rfl,rfl,(n_ rfl (jat rfl B)),trivial⟩
   refine Zz 3 ?_;exact met (zm (jof e A))
  have e:=m;try dsimp only[Con.kind,Con.parts,Con.name,Con.lo,Con.hi,Con.cap,Con.ad]at m
  refine Zz 11 ?_;exact met ⟨rfl,rfl,rfl,rfl,(n_ rfl (jot e)),trivial⟩
 refine Zz 2 ?_;cases X
 ·try dsimp only[Con.kind,Con.parts,Con.name,Con.lo,Con.hi,Con.cap,Con.ad]at d
  refine Zz 13 ?_;refine bt_ [(36,.slice ad y.length cap),(37,.int .i64 (y.length:Int)),(38,.int .i64 ((0:Nat):Int))] zl ?_;refine bQ_ (ι:={q:Nat // q≤y.length∧(y.take q).all bg_=true}) (fun i=>[(36,.slice ad y.length cap),(37,.int .i64 (y.length:Int)),(38,.int .i64 (i.1:Int))]) (fun _=>_) (fun _=>_) (fun i=>y.length - i.1) ⟨0,by simp⟩ ?_;rintro ⟨i,hk⟩;refine bt_ [(36,.slice ad y.length cap),(37,.int .i64 (y.length:Int)),(38,.int .i64 (i:Int))] zl ?_;refine Zj 2 (fun A=>?_) fun A=>?_
  ·refine Zz 12 ?_
   exact ae_ Tryz.results62 () (n_ rfl (by have hf:y.all bg_=true:=(by have:=hk.2;rwa [List.take_of_length_le za_]at this);unfold Ax.namedU;simp only[pn]at d;simp only[hf,d];rfl)) (.refl _) zt
  have Q:i<y.length:=by omega
  obtain⟨q,hp⟩:∃ q,y[i]? = some q:=⟨_,List.getElem?_eq_getElem Q⟩;refine Zz 10 ?_;refine e_ (Q_ l_ E_ rfl rfl (fun v _ h=>as_ (n:=1) aq_ ze_ (h.1.2.2) hp) za_ zg_) rfl ?_;refine Zz 7 ?_;refine T_ (gQ_ _) rfl (.refl _) zt rfl fun I B=>e_ (ax_ rfl) rfl (Zz 2 ?_)
  cases I
  ·try dsimp only[Con.kind,Con.parts,Con.name,Con.lo,Con.hi,Con.cap,Con.ad]at B
   refine Zz 7 ?_;exact ae_ Tryz.results62 () (n_ rfl (by have hf:y.all bg_=false:=List.all_eq_false.2 ⟨q,List.mem_of_getElem? hp,by simp[*]⟩;unfold Ax.namedU;simp only[hf,Bool.and_false])) (.refl _) zt
  try dsimp only[Con.kind,Con.parts,Con.name,Con.lo,Con.hi,Con.cap,Con.ad]at B
  refine Zz 8 ?_;exact x_ ⟨i+1,Q,by rw[List.take_add_one,hp];simp only[Option.toList_some,List.all_append,hk.2];simp[*]⟩ zn_ zl (.refl _) zh
 try dsimp only[Con.kind,Con.parts,Con.name,Con.lo,Con.hi,Con.cap,Con.ad]at d
 refine Zz 7 ?_;exact ae_ Tryz.results62 () (n_ rfl (by unfold Ax.namedU;simp only[pn]at d;simp only[d];rfl)) (.refl _) zt
theorem Ax.shaped_kind {x:Ax} (h:x.shaped=true):1≤x.kind∧x.kind≤9:=by
 unfold Ax.shaped at h
 split at h
 ·cases h
 rename_i d;simp only[not_or]at d;omega
theorem dS_ {G:Prop} (h:G:=by
 refine Zz 9 ?_;exact dT_):G:=h
theorem dD_ {G:Prop} (h:G:=by
 refine Zz 7 ?_;exact dT_):G:=h
theorem lT_ {G:Prop} (h:G:=by
 refine Zz 2 ?_;cases R
 ·simp at d
  try dsimp only[Con.kind,Con.parts,Con.name,Con.lo,Con.hi,Con.cap,Con.ad]at d
  exact dS_
 simp at d
 try dsimp only[Con.kind,Con.parts,Con.name,Con.lo,Con.hi,Con.cap,Con.ad]at d
 exact dD_):G:=h
theorem lU_ {G:Prop} (h:G:=by
 refine T_ (dJ_ _ (.mk J I C F H E G) (Nat.le_refl _) A.right) rfl (.refl _) (fun v _ h=>⟨h.1.2.1,trivial⟩) rfl fun y K=>Zz 2 ?_
 cases y
 ·try dsimp only[Con.kind,Con.parts,Con.name,Con.lo,Con.hi,Con.cap,Con.ad]at K
  exact dS_
 try dsimp only[Con.kind,Con.parts,Con.name,Con.lo,Con.hi,Con.cap,Con.ad]at K
 exact dD_):G:=h
theorem lV_ {G:Prop} (h:G:=by
 refine Zz 11 ?_;refine T_ (dJ_ _ (.mk J I C F H E G) (Nat.le_refl _) A.right) rfl (.refl _) (fun v _ h=>⟨h.1.2.1,trivial⟩) rfl fun y d=>Zz 2 ?_
 cases y
 ·try dsimp only[Con.kind,Con.parts,Con.name,Con.lo,Con.hi,Con.cap,Con.ad]at d
  exact dS_
 try dsimp only[Con.kind,Con.parts,Con.name,Con.lo,Con.hi,Con.cap,Con.ad]at d
 exact dD_):G:=h
theorem lW_ {G:Prop} (h:G:=by
 cases y
 ·have B:=q
  try dsimp only[Con.kind,Con.parts,Con.name,Con.lo,Con.hi,Con.cap,Con.ad]at q
  refine Zz 5 ?_;refine T_ (dJ_ _ (.mk J I C F H E G) (Nat.le_refl _) A.right) rfl (.refl _) (fun v _ h=>⟨h.1.2.1,trivial⟩) rfl fun a1 m=>Zz 3 ?_
  exact met (zm (jof B m))
 have B:=q;try dsimp only[Con.kind,Con.parts,Con.name,Con.lo,Con.hi,Con.cap,Con.ad]at q
 refine Zz 6 ?_;exact met ⟨rfl,rfl,rfl,rfl,rfl,rfl,rfl,rfl,rfl,rfl,rfl,rfl,rfl,rfl,rfl,rfl,rfl,rfl,rfl,rfl,rfl,rfl,rfl,rfl,rfl,rfl,rfl,rfl,rfl,(n_ rfl (jot B)),trivial⟩):G:=h
theorem jb_ {G:Prop} (h:G:=by
 refine T_ (dJ_ _ (.mk J I C F H E G) (Nat.le_refl _) A.right) rfl (.refl _) (fun v _ h=>⟨h.1.2.1,trivial⟩) rfl fun y m=>Zz 2 ?_
 cases y
 ·try dsimp only[Con.kind,Con.parts,Con.name,Con.lo,Con.hi,Con.cap,Con.ad]at m
  exact dS_
 try dsimp only[Con.kind,Con.parts,Con.name,Con.lo,Con.hi,Con.cap,Con.ad]at m
 exact dD_):G:=h
theorem lX_ {G:Prop} (h:G:=by
 refine Zj 7 (fun q=>?_) fun q=>?_
 ·refine Zj 6 (fun d=>?_) fun d=>?_
  ·refine Zj 5 (fun m=>?_) fun m=>?_
   ·refine Zz 12 ?_
    exact dT_
   refine Zz 8 ?_;exact lU_
  refine Zz 11 ?_;exact jb_
 exact lV_):G:=h
theorem dT_ {G:Prop} (h:G:=by
 exact ae_ Tryz.results29 () (ce_ rfl (by unfold Ax.check;simp only[e];simp_all)) (.refl _) zt):G:=h
theorem hD_ (x:Ax) (A:x.ok):Tri Tryz.prog 29 #[x.val] [] [x.memF,cj_] (fun _:Unit=>.int .i64 x.check) (fun _=>[]) (fun _=>[]):=by
 obtain⟨k,T,⟨kl,O,N,hl,al,cl,pl⟩,⟨J,I,C,F,H,E,G⟩,ad,cap,S,ro,a,b⟩:=x;refine i_ Tryz.func29 rfl rfl Tryz.ntmps29 rfl fun v_1=>?_;refine Zz 2 ?_;refine aa_ rfl rfl fun M=>Zz 7 ?_
 refine T_ (rK_ ⟨k,T,(.mk kl O N hl al cl pl),(.mk J I C F H E G),ad,cap,S,ro,a,b⟩) rfl (.refl _) zf rfl fun r_1 U=>e_ (ax_ rfl) rfl (Zz 2 ?_)
 cases r_1
 ·try dsimp only[Con.kind,Con.parts,Con.name,Con.lo,Con.hi,Con.cap,Con.ad]at U
  refine Zz 7 ?_;exact ae_ Tryz.results29 () (ce_ rfl (by unfold Ax.check;simp_all)) (.refl _) zt
 try dsimp only[Con.kind,Con.parts,Con.name,Con.lo,Con.hi,Con.cap,Con.ad]at U
 have hk_1:1≤k∧k≤9:=Ax.shaped_kind U;obtain⟨u,hx⟩:∃ u,tf_[k.toNat]? = some u:=⟨_,List.getElem?_eq_getElem (show k.toNat<10 by omega)⟩;have e:us k=u:=by simp[us,hx]
 obtain⟨ul,ur,V,W,ub,X,Y⟩:=u;refine Zz 7 ?_;refine e_ (dV_ Tryz.runUnderlying96 jx_ rfl rfl zaI_ (by show k<(10:Int);omega)) rfl ?_;refine e_ (aj_ (ad:=some ⟨0,0,none⟩) (us:=Use.cells ⟨ul,ur,V,W,ub,X,Y⟩) Tryz.isAgg95 jx_ rfl (fun v _ h=>h.2.1.2.1) (Use.cells_len _) (o_ Use.cells_len hx)) rfl (G_ Tryz.zeroValue95 rfl fun P=>u_ 0 jx_ rfl rfl rfl rfl rfl rfl (Zz 7 ?_));refine T_ (tN_ ⟨k,T,(.mk kl O N hl al cl pl),(.mk J I C F H E G),ad,cap,S,ro,a,b⟩ A ⟨ul,ur,V,W,ub,X,Y⟩) rfl (.refl _) zf rfl fun r_2 Z=>e_ (ax_ rfl) rfl (Zz 2 ?_)
 cases r_2
 ·try dsimp only[Con.kind,Con.parts,Con.name,Con.lo,Con.hi,Con.cap,Con.ad]at Z
  exact dD_
 try dsimp only[Con.kind,Con.parts,Con.name,Con.lo,Con.hi,Con.cap,Con.ad]at Z
 refine Zz 10 ?_;cases ul
 ·try dsimp only[Con.kind,Con.parts,Con.name,Con.lo,Con.hi,Con.cap,Con.ad]at hul
  refine Zz 10 ?_;cases ur
  ·try dsimp only[Con.kind,Con.parts,Con.name,Con.lo,Con.hi,Con.cap,Con.ad]at hur
   refine Zj 13 (fun Q=>?_) fun Q=>?_
   ·refine Zj 7 (fun L=>?_) fun L=>?_
    ·refine Zj 6 (fun q=>?_) fun q=>?_
     ·refine Zj 5 (fun d=>?_) fun d=>?_
      ·refine Zz 12 ?_
       exact dT_
      refine Zz 8 ?_;exact jb_
     exact lV_
    refine Zz 11 ?_;refine T_ (dJ_ _ (.mk J I C F H E G) (Nat.le_refl _) A.right) rfl (.refl _) (fun v _ h=>⟨h.1.2.1,trivial⟩) rfl fun y q=>Zz 2 ?_
    cases y
    ·try dsimp only[Con.kind,Con.parts,Con.name,Con.lo,Con.hi,Con.cap,Con.ad]at q
     exact dS_
    try dsimp only[Con.kind,Con.parts,Con.name,Con.lo,Con.hi,Con.cap,Con.ad]at q
    exact dD_
   refine Zz 8 ?_;refine T_ (dJ_ _ (.mk kl O N hl al cl pl) (Nat.le_refl _) A.left) rfl (.refl _) (fun v _ h=>⟨h.1.1,trivial⟩) rfl fun y L=>Zz 1 ?_
   refine ai_ 4 ((Con.bare (.mk kl O N hl al cl pl))||(Con.bare (.mk J I C F H E G))) (fun r=>[(0,.agg (Ax.cells (Ax.mk k T (Con.mk kl O N hl al cl pl) (Con.mk J I C F H E G) ad cap S ro a b)).toArray),(1,zp_ M 0),(2,.int .i64 0),(6,.agg (Ax.cells (Ax.mk k T (Con.mk kl O N hl al cl pl) (Con.mk J I C F H E G) ad cap S ro a b)).toArray),(7,.bool true),(8,.bool false),(9,zp_ M 0),(10,.int .i64 k),(11,.pointer (some (rad (some ⟨0,0,none⟩) (k.toNat*7)))),(12,.agg #[.bool false,.bool false,.bool V,.bool W,.bool ub,.int .i64 X,.int .i64 Y]),(3,zp_ P 0),(13,.agg (Ax.cells (Ax.mk k T (Con.mk kl O N hl al cl pl) (Con.mk J I C F H E G) ad cap S ro a b)).toArray),(14,.agg #[.bool false,.bool false,.bool V,.bool W,.bool ub,.int .i64 X,.int .i64 Y]),(15,.bool true),(16,.bool false),(17,zp_ P 0),(18,.bool false),(25,zp_ P 1),(26,.bool false),(33,zp_ M 0),(34,.int .i64 k),(36,.bool true),(35,.bool true),(44,.bool r)]) ?_ fun R q=>?_
   ·cases y
    ·have B:=L
     try dsimp only[Con.kind,Con.parts,Con.name,Con.lo,Con.hi,Con.cap,Con.ad]at L
     refine Zz 5 ?_;refine T_ (dJ_ _ (.mk J I C F H E G) (Nat.le_refl _) A.right) rfl (.refl _) (fun v _ h=>⟨h.1.2.1,trivial⟩) rfl fun a1 d=>Zz 3 ?_
     exact met (zm (jof B d))
    have B:=L;try dsimp only[Con.kind,Con.parts,Con.name,Con.lo,Con.hi,Con.cap,Con.ad]at L
    refine Zz 6 ?_;exact met ⟨rfl,rfl,rfl,rfl,rfl,rfl,rfl,rfl,rfl,rfl,rfl,rfl,rfl,rfl,rfl,rfl,rfl,rfl,rfl,rfl,rfl,rfl,rfl,(n_ rfl (jot B)),trivial⟩
   refine Zz 2 ?_;cases R
   ·simp at q
    try dsimp only[Con.kind,Con.parts,Con.name,Con.lo,Con.hi,Con.cap,Con.ad]at q
    exact dS_
   simp at q
   try dsimp only[Con.kind,Con.parts,Con.name,Con.lo,Con.hi,Con.cap,Con.ad]at q
   exact dD_
  try dsimp only[Con.kind,Con.parts,Con.name,Con.lo,Con.hi,Con.cap,Con.ad]at hur
  refine Zz 5 ?_;refine g_ (eM_ (.mk J I C F H E G) A.right) rfl (.refl _) (fun v _ h=>⟨h.1.2.1,h.2.1,trivial⟩) rfl fun _=>Zj 6 (fun Q=>?_) fun Q=>?_
  ·refine Zj 15 (fun L=>?_) fun L=>?_
   ·exact lX_
   refine Zz 8 ?_;refine T_ (dJ_ _ (.mk kl O N hl al cl pl) (Nat.le_refl _) A.left) rfl (.refl _) (fun v _ h=>⟨h.1.1,trivial⟩) rfl fun y q=>Zz 1 ?_
   refine ai_ 4 ((Con.bare (.mk kl O N hl al cl pl))||(Con.bare (.mk J I C F H E G))) (fun r=>[(0,.agg (Ax.cells (Ax.mk k T (Con.mk kl O N hl al cl pl) (Con.mk J I C F H E G) ad cap S ro a b)).toArray),(1,zp_ M 0),(2,.int .i64 0),(6,.agg (Ax.cells (Ax.mk k T (Con.mk kl O N hl al cl pl) (Con.mk J I C F H E G) ad cap S ro a b)).toArray),(7,.bool true),(8,.bool false),(9,zp_ M 0),(10,.int .i64 k),(11,.pointer (some (rad (some ⟨0,0,none⟩) (k.toNat*7)))),(12,.agg #[.bool false,.bool true,.bool V,.bool W,.bool ub,.int .i64 X,.int .i64 Y]),(3,zp_ P 0),(13,.agg (Ax.cells (Ax.mk k T (Con.mk kl O N hl al cl pl) (Con.mk J I C F H E G) ad cap S ro a b)).toArray),(14,.agg #[.bool false,.bool true,.bool V,.bool W,.bool ub,.int .i64 X,.int .i64 Y]),(15,.bool true),(16,.bool false),(17,zp_ P 0),(18,.bool false),(25,zp_ P 1),(26,.bool true),(27,zp_ M 7),(28,.agg (Con.cells (Con.mk J I C F H E G)).toArray),(29,.int .i64 (Con.check (.mk J I C F H E G))),(5,.int .i64 (Con.check (.mk J I C F H E G))),(30,.int .i64 (Con.check (.mk J I C F H E G))),(31,.bool false),(33,zp_ M 0),(34,.int .i64 k),(36,.bool true),(35,.bool true),(44,.bool r)]) ?_ fun R d=>?_
   ·exact lW_
   exact lT_
  refine Zz 10 ?_;exact dT_
 try dsimp only[Con.kind,Con.parts,Con.name,Con.lo,Con.hi,Con.cap,Con.ad]at hul
 refine Zz 5 ?_;refine g_ (eM_ (.mk kl O N hl al cl pl) A.left) rfl (.refl _) (fun v _ h=>⟨h.1.1,h.2.1,trivial⟩) rfl fun _=>Zj 6 (fun Q=>?_) fun Q=>?_
 ·refine Zz 12 ?_
  cases ur
  ·try dsimp only[Con.kind,Con.parts,Con.name,Con.lo,Con.hi,Con.cap,Con.ad]at hur
   refine Zj 13 (fun L=>?_) fun L=>?_
   ·exact lX_
   refine Zz 8 ?_;refine T_ (dJ_ _ (.mk kl O N hl al cl pl) (Nat.le_refl _) A.left) rfl (.refl _) (fun v _ h=>⟨h.1.1,trivial⟩) rfl fun y q=>Zz 1 ?_
   refine ai_ 4 ((Con.bare (.mk kl O N hl al cl pl))||(Con.bare (.mk J I C F H E G))) (fun r=>[(0,.agg (Ax.cells (Ax.mk k T (Con.mk kl O N hl al cl pl) (Con.mk J I C F H E G) ad cap S ro a b)).toArray),(1,zp_ M 0),(2,.int .i64 0),(6,.agg (Ax.cells (Ax.mk k T (Con.mk kl O N hl al cl pl) (Con.mk J I C F H E G) ad cap S ro a b)).toArray),(7,.bool true),(8,.bool false),(9,zp_ M 0),(10,.int .i64 k),(11,.pointer (some (rad (some ⟨0,0,none⟩) (k.toNat*7)))),(12,.agg #[.bool true,.bool false,.bool V,.bool W,.bool ub,.int .i64 X,.int .i64 Y]),(3,zp_ P 0),(13,.agg (Ax.cells (Ax.mk k T (Con.mk kl O N hl al cl pl) (Con.mk J I C F H E G) ad cap S ro a b)).toArray),(14,.agg #[.bool true,.bool false,.bool V,.bool W,.bool ub,.int .i64 X,.int .i64 Y]),(15,.bool true),(16,.bool false),(17,zp_ P 0),(18,.bool true),(19,zp_ M 2),(20,.agg (Con.cells (Con.mk kl O N hl al cl pl)).toArray),(21,.int .i64 (Con.check (.mk kl O N hl al cl pl))),(4,.int .i64 (Con.check (.mk kl O N hl al cl pl))),(22,.int .i64 (Con.check (.mk kl O N hl al cl pl))),(23,.bool false),(25,zp_ P 1),(26,.bool false),(33,zp_ M 0),(34,.int .i64 k),(36,.bool true),(35,.bool true),(44,.bool r)]) ?_ fun R d=>?_
   ·exact lW_
   exact lT_
  try dsimp only[Con.kind,Con.parts,Con.name,Con.lo,Con.hi,Con.cap,Con.ad]at hur
  refine Zz 5 ?_;refine g_ (eM_ (.mk J I C F H E G) A.right) rfl (.refl _) (fun v _ h=>⟨h.1.2.1,h.2.1,trivial⟩) rfl fun _=>Zj 6 (fun L=>?_) fun L=>?_
  ·refine Zj 15 (fun q=>?_) fun q=>?_
   ·refine Zj 7 (fun d=>?_) fun d=>?_
    ·refine Zj 6 (fun m=>?_) fun m=>?_
     ·refine Zj 5 (fun K=>?_) fun K=>?_
      ·refine Zz 12 ?_
       exact dT_
      refine Zz 8 ?_;refine T_ (dJ_ _ (.mk J I C F H E G) (Nat.le_refl _) A.right) rfl (.refl _) (fun v _ h=>⟨h.1.2.1,trivial⟩) rfl fun y a0=>Zz 2 ?_
      cases y
      ·try dsimp only[Con.kind,Con.parts,Con.name,Con.lo,Con.hi,Con.cap,Con.ad]at a0
       exact dS_
      try dsimp only[Con.kind,Con.parts,Con.name,Con.lo,Con.hi,Con.cap,Con.ad]at a0
      exact dD_
     refine Zz 11 ?_;exact lU_
    refine Zz 11 ?_;exact jb_
   refine Zz 8 ?_;refine T_ (dJ_ _ (.mk kl O N hl al cl pl) (Nat.le_refl _) A.left) rfl (.refl _) (fun v _ h=>⟨h.1.1,trivial⟩) rfl fun y d=>Zz 1 ?_
   refine ai_ 4 ((Con.bare (.mk kl O N hl al cl pl))||(Con.bare (.mk J I C F H E G))) (fun r=>[(0,.agg (Ax.cells (Ax.mk k T (Con.mk kl O N hl al cl pl) (Con.mk J I C F H E G) ad cap S ro a b)).toArray),(1,zp_ M 0),(2,.int .i64 0),(6,.agg (Ax.cells (Ax.mk k T (Con.mk kl O N hl al cl pl) (Con.mk J I C F H E G) ad cap S ro a b)).toArray),(7,.bool true),(8,.bool false),(9,zp_ M 0),(10,.int .i64 k),(11,.pointer (some (rad (some ⟨0,0,none⟩) (k.toNat*7)))),(12,.agg #[.bool true,.bool true,.bool V,.bool W,.bool ub,.int .i64 X,.int .i64 Y]),(3,zp_ P 0),(13,.agg (Ax.cells (Ax.mk k T (Con.mk kl O N hl al cl pl) (Con.mk J I C F H E G) ad cap S ro a b)).toArray),(14,.agg #[.bool true,.bool true,.bool V,.bool W,.bool ub,.int .i64 X,.int .i64 Y]),(15,.bool true),(16,.bool false),(17,zp_ P 0),(18,.bool true),(19,zp_ M 2),(20,.agg (Con.cells (Con.mk kl O N hl al cl pl)).toArray),(21,.int .i64 (Con.check (.mk kl O N hl al cl pl))),(4,.int .i64 (Con.check (.mk kl O N hl al cl pl))),(22,.int .i64 (Con.check (.mk kl O N hl al cl pl))),(23,.bool false),(25,zp_ P 1),(26,.bool true),(27,zp_ M 7),(28,.agg (Con.cells (Con.mk J I C F H E G)).toArray),(29,.int .i64 (Con.check (.mk J I C F H E G))),(5,.int .i64 (Con.check (.mk J I C F H E G))),(30,.int .i64 (Con.check (.mk J I C F H E G))),(31,.bool false),(33,zp_ M 0),(34,.int .i64 k),(36,.bool true),(35,.bool true),(44,.bool r)]) ?_ fun R m=>?_
   ·cases y
    ·have B:=d
     try dsimp only[Con.kind,Con.parts,Con.name,Con.lo,Con.hi,Con.cap,Con.ad]at d
     refine Zz 5 ?_;refine T_ (dJ_ _ (.mk J I C F H E G) (Nat.le_refl _) A.right) rfl (.refl _) (fun v _ h=>⟨h.1.2.1,trivial⟩) rfl fun a1 K=>Zz 3 ?_
     exact met (zm (jof B K))
    have B:=d;try dsimp only[Con.kind,Con.parts,Con.name,Con.lo,Con.hi,Con.cap,Con.ad]at d
    refine Zz 6 ?_;exact met ⟨rfl,rfl,rfl,rfl,rfl,rfl,rfl,rfl,rfl,rfl,rfl,rfl,rfl,rfl,rfl,rfl,rfl,rfl,rfl,rfl,rfl,rfl,rfl,rfl,rfl,rfl,rfl,rfl,rfl,rfl,rfl,rfl,rfl,rfl,rfl,(n_ rfl (jot B)),trivial⟩
   refine Zz 2 ?_;cases R
   ·simp at m
    try dsimp only[Con.kind,Con.parts,Con.name,Con.lo,Con.hi,Con.cap,Con.ad]at m
    exact dS_
   simp at m
   try dsimp only[Con.kind,Con.parts,Con.name,Con.lo,Con.hi,Con.cap,Con.ad]at m
   exact dD_
  refine Zz 10 ?_;exact dT_
 refine Zz 10 ?_;exact dT_
def prE:Array MapEntry:=#[⟨.int .i64 1,.func (.func 229) #[] #[],0⟩,⟨.int .i64 2,.func (.func 230) #[] #[],1⟩,⟨.int .i64 3,.func (.func 231) #[] #[],2⟩,⟨.int .i64 4,.func (.func 232) #[] #[],3⟩,⟨.int .i64 5,.func (.func 233) #[] #[],4⟩,⟨.int .i64 6,.func (.func 234) #[] #[],5⟩,⟨.int .i64 7,.func (.func 235) #[] #[],6⟩]
def prF (m:Nat):Fct:=bW_ m (.map prE 7)
def prV (m n:Nat):Value:=.agg #[.map (some m),.map (some n)]
theorem elt39:Elt Tryz.prog 25 9 1 16:=iZ_ ib_ (z:=.string ⟨#[]⟩) zd_ rfl ze_
theorem vv_ {b n cap:Nat} (d:List Str) (h:Str) (H:d.length=n) {k:Array Value} {T:TypeId} {fz:Nat×Nat} (I:∀ (j:Nat) (x:Str),d[j]? = some x→k[j]? = some (str x)) (m:d.length≤cap) (J:d.length≤1000000) (A:(Lib.join d h).length≤140737488355328) :
    Tri Tryz.prog 252 #[.slice (some ⟨b,0,none⟩) n cap,str h] [(b,.cells k T fz)] [cj_] (fun _:Unit=>str (Lib.join d h)) (fun _=>[(b,.cells k T fz)]) (fun _=>[]):=by
  subst H;refine cP_ (callable Tryz.func252 rfl rfl) fun v B G=>?_;have E:=(B.own _ List.mem_cons_self).1;have e:(d.map fun x=>(⟨x.toArray⟩:ByteArray)).map (·.data.toList)=d:=by simp[List.map_map,Function.comp_def]
  have:=Tryz.strings_Join b 0 cap (d.map fun x=>⟨x.toArray⟩) ⟨h.toArray⟩ v.w (fun j x C=>by
    simp only[List.getElem?_map,Option.map_eq_some_iff]at C;obtain⟨y,F,rfl⟩:=C;simp only[World.cell?,E,Nat.zero_add];exact I j y F) (Array.getElem?_eq_some_iff.1 E).1 zn_ zax_ (by rw[e];exact A)
  rw[e,List.length_map]at this;exact this.mono fun _ _ q=>⟨q.1,q.2,.inl G.1.2.2.2.1⟩
theorem vx_ (n:Int) (d:-9223372036854775808≤n) (m:n≤9223372036854775807):Tri Tryz.prog 254 #[.int .i64 n] [] [cj_] (fun _:Unit=>str (Lib.itoa n)) (fun _=>[]) (fun _=>[]) :=
  cP_ (callable Tryz.func254 rfl rfl) fun v _ h=>(Tryz.strconv_Itoa n d m v.w (tu_ h.1.2.2.2)).mono (by
    rintro e w' ⟨rfl,k,os,rfl⟩;exact⟨rfl,sb_ _ _ _,.inr (Nat.le_add_right _ _)⟩)
theorem sm_ {b n:Nat} (e:List Str) (m:e.length=n) {d:Array Value} {T:TypeId} {fz:Nat×Nat} (q:∀ (j:Nat) (x:Str),e[j]? = some x→d[j]? = some (str x)) (y:e.length≤1000000) (k:(Lib.join e [32]).length≤140737488355328) :
    Tri Tryz.prog 253 #[.slice (some ⟨b,0,none⟩) n n] [(b,.cells d T fz)] [cj_] (fun _:Unit=>str (Lib.join e [32])) (fun _=>[(b,.cells d T fz)]) (fun _=>[]):=by
  refine i_ Tryz.func253 rfl rfl Tryz.ntmps253 rfl fun A=>?_;refine Zz 8 ?_;refine g_ (vv_ e [32] m q (Nat.le_of_eq m) y k) rfl (.refl _) (fun v _ h=>h) rfl fun _=>Zz 4 ?_
  exact ae_ Tryz.results253 () rfl (F:=[]) (.refl _) zt
theorem pr_top (c:Con) (m n:Nat) (hk:c.kind=1):Tri Tryz.prog 229 #[prV m n,c.val] [] [c.memF,prF m,cj_] (fun _:Unit=>str c.text) (fun _=>[]) (fun _=>[]):=by
  obtain⟨k,nm,lo,hi,ad,cap,ps⟩:=c;simp only[Con.kind]at hk;refine i_ Tryz.func229 rfl rfl Tryz.ntmps229 rfl fun d=>?_;refine Zz 2 ?_;refine aa_ rfl rfl fun h=>aa_ rfl rfl fun e=>Zz 9 ?_
  exact ae_ Tryz.results229 () (fH_ rfl zK_) (.refl _) zt
theorem tt_ (c:Con) (m n:Nat) (hk:c.kind=2):Tri Tryz.prog 230 #[prV m n,c.val] [] [c.memF,prF m,cj_] (fun _:Unit=>str c.text) (fun _=>[]) (fun _=>[]):=by
  obtain⟨k,nm,lo,hi,ad,cap,ps⟩:=c;simp only[Con.kind]at hk;refine i_ Tryz.func230 rfl rfl Tryz.ntmps230 rfl fun d=>?_;refine Zz 2 ?_;refine aa_ rfl rfl fun h=>aa_ rfl rfl fun e=>Zz 9 ?_
  exact ae_ Tryz.results230 () (fH_ rfl zK_) (.refl _) zt
theorem uV_ (c:Con) (m n:Nat) (hk:c.kind=3):Tri Tryz.prog 231 #[prV m n,c.val] [] [c.memF,prF m,cj_] (fun _:Unit=>str c.text) (fun _=>[]) (fun _=>[]):=by
  obtain⟨k,nm,lo,hi,ad,cap,ps⟩:=c;simp only[Con.kind]at hk;refine i_ Tryz.func231 rfl rfl Tryz.ntmps231 rfl fun d=>?_;refine Zz 2 ?_;refine aa_ rfl rfl fun h=>aa_ rfl rfl fun e=>Zz 11 ?_
  exact ae_ Tryz.results231 () (fH_ rfl zK_) (.refl _) zt
theorem rv_ (c:Con) (m n:Nat) (hk:c.kind=4) (hl:c.name.length≤24):Tri Tryz.prog 232 #[prV m n,c.val] [] [c.memF,prF m,cj_] (fun _:Unit=>str c.text) (fun _=>[]) (fun _=>[]):=by
  obtain⟨k,nm,lo,hi,ad,cap,ps⟩:=c;simp only[Con.kind]at hk;refine i_ Tryz.func232 rfl rfl Tryz.ntmps232 rfl fun e=>?_;simp only[Con.name]at hl;refine Zz 2 ?_;refine aa_ rfl rfl fun d=>aa_ rfl rfl fun h=>Zz 7 ?_
  refine e_ (em_ rfl rfl (by simp[Con.name];omega)) rfl ?_;refine e_ (em_ rfl rfl (by simp[Con.name];omega)) rfl ?_;refine Zz 4 ?_;exact ae_ Tryz.results232 () (fH_ rfl zK_) (.refl _) zt
theorem lS_ {G:Prop} (h:G:=by
 exact ae_ Tryz.results251 () (fH_ rfl (by unfold Con.operand;first|exact (if_pos zi_).symm|exact (if_neg zi_).symm)) (.refl _) zt):G:=h
theorem ru_ (c:Con) (m n:Nat) (hl:c.text.length≤100000) (e:Tri Tryz.prog 214 #[prV m n,c.val] [] [c.memF,prF m,cj_] (fun _:Unit=>str c.text) (fun _=>[]) (fun _=>[])):Tri Tryz.prog 251 #[prV m n,c.val] [] [c.memF,prF m,cj_] (fun _:Unit=>str c.operand) (fun _=>[]) (fun _=>[]):=by
 obtain⟨k,nm,lo,hi,ad,cap,ps⟩:=c;refine i_ Tryz.func251 rfl rfl Tryz.ntmps251 rfl fun q=>?_;refine Zz 2 ?_;refine aa_ rfl rfl fun x=>aa_ rfl rfl fun y=>Zj 8 (fun d=>?_) fun d=>?_
 ·refine Zz 9 ?_
  refine g_ (e) rfl (.refl _) (fun v _ h=>h) rfl fun _=>Zz 4 ?_
  exact lS_
 refine Zz 7 ?_;refine g_ (e) rfl (.refl _) (fun v _ h=>h) rfl fun _=>?_;refine e_ (em_ rfl rfl zr_) rfl ?_;refine e_ (em_ rfl rfl zr_) rfl ?_;refine Zz 4 ?_;exact lS_
theorem fU_ (c:Con) (m n:Nat) {g i:Nat} (d:dp_ Tryz.prog 3 (.int .i64 c.kind) prE.toList (some (i,.func (.func g) #[] #[]))) (y:Tri Tryz.prog g #[prV m n,c.val] [] [c.memF,prF m,cj_] (fun _:Unit=>str c.text) (fun _=>[]) (fun _=>[])):Tri Tryz.prog 214 #[prV m n,c.val] [] [c.memF,prF m,cj_] (fun _:Unit=>str c.text) (fun _=>[]) (fun _=>[]):=by
  obtain⟨k,nm,lo,hi,ad,cap,ps⟩:=c;refine i_ Tryz.func214 rfl rfl Tryz.ntmps214 rfl fun e=>?_;refine Zz 2 ?_;refine aa_ rfl rfl fun q=>aa_ rfl rfl fun x=>Zz 9 ?_
  refine e_ (eR_ dh_ rfl rfl (fun v _ h=>h.2.1.2) (aZ_ p_) d) rfl (Zz 2 ?_);refine ap_ (y) rfl rfl (.refl _) zf rfl fun _=>Zz 4 ?_
  exact ae_ Tryz.results214 () rfl (.refl _) zt
theorem wC_:hN_ Tryz.prog 253 [(0,1),(1,1)] [.map none,.map none]:=⟨_,Tryz.zeroValue253,cp_,fun w=>by simp[Tryz.sizeOf250,Tryz.sizeOf251]⟩
theorem oM_:Tri Tryz.prog 213 #[] [] [] (fun q:Nat×Nat=>prV q.1 q.2) (fun _=>[]) (fun q=>[prF q.1]):=by
  refine i_ Tryz.func213 rfl rfl Tryz.ntmps213 rfl fun m=>?_;refine Zz 2 ?_;refine G_ Tryz.zeroValue253 rfl fun x=>Zz 4 ?_
  refine aY_ rfl fun e=>aQ_ 0 (.inl rfl) dh_ rfl rfl rfl rfl (aZ_ p_) (aJ_ p_ rfl) (aQ_ 0 (.inl rfl) dh_ rfl rfl rfl rfl (aZ_ p_) (aJ_ p_ rfl) (aQ_ 0 (.inl rfl) dh_ rfl rfl rfl rfl (aZ_ p_) (aJ_ p_ rfl) (aQ_ 0 (.inl rfl) dh_ rfl rfl rfl rfl (aZ_ p_) (aJ_ p_ rfl) (aQ_ 0 (.inl rfl) dh_ rfl rfl rfl rfl (aZ_ p_) (aJ_ p_ rfl) (aQ_ 0 (.inl rfl) dh_ rfl rfl rfl rfl (aZ_ p_) (aJ_ p_ rfl) (aQ_ 0 (.inl rfl) dh_ rfl rfl rfl rfl (aZ_ p_) (aJ_ p_ rfl) (Zz 1 ?_)))))))
  refine aY_ rfl fun h=>aQ_ 0 (.inl rfl) cq_ rfl rfl rfl rfl (aZ_ p_) (aJ_ p_ rfl) (aQ_ 0 (.inl rfl) cq_ rfl rfl rfl rfl (aZ_ p_) (aJ_ p_ rfl) (aQ_ 0 (.inl rfl) cq_ rfl rfl rfl rfl (aZ_ p_) (aJ_ p_ rfl) (aQ_ 0 (.inl rfl) cq_ rfl rfl rfl rfl (aZ_ p_) (aJ_ p_ rfl) (aQ_ 0 (.inl rfl) cq_ rfl rfl rfl rfl (aZ_ p_) (aJ_ p_ rfl) (aQ_ 0 (.inl rfl) cq_ rfl rfl rfl rfl (aZ_ p_) (aJ_ p_ rfl) (aQ_ 0 (.inl rfl) cq_ rfl rfl rfl rfl (aZ_ p_) (aJ_ p_ rfl) (aQ_ 0 (.inl rfl) cq_ rfl rfl rfl rfl (aZ_ p_) (aJ_ p_ rfl) (aQ_ 0 (.inl rfl) cq_ rfl rfl rfl rfl (aZ_ p_) (aJ_ p_ rfl) (Zz 1 ?_)))))))))
  refine e_ (H_ wC_ rfl rfl) rfl (u_ 2 Tryz.sizeOf253 rfl rfl rfl rfl rfl rfl (Zz 3 ?_));refine il_ 1 rfl ?_;exact gN_ (e,h) (fun a v k d=>ed_ (us:=[_,_]) 1 Tryz.results213 Tryz.isAgg253 Tryz.sizeOf253 rfl rfl rfl a v k d) (.refl _) zf
theorem pr_and (c:Con) (m n:Nat) (H:c.kind=5) (J:2≤c.parts.length∧c.parts.length≤8) (hl:(Lib.join (c.parts.map Con.operand) [32,97,110,100,32]).length≤140737488355328) (E:∀ p∈c.parts,Tri Tryz.prog 251 #[prV m n,p.val] [] [p.memF,prF m,cj_] (fun _:Unit=>str p.operand) (fun _=>[]) (fun _=>[])):Tri Tryz.prog 233 #[prV m n,c.val] [] [c.memF,prF m,cj_] (fun _:Unit=>str c.text) (fun _=>[]) (fun _=>[]):=by
 obtain⟨k,nm,lo,hi,ad,cap,ps⟩:=c;simp only[Con.kind,Con.parts]at H J hl E;refine i_ Tryz.func233 rfl rfl Tryz.ntmps233 rfl fun N=>?_;refine Zz 2 ?_;refine aa_ rfl rfl fun d=>aa_ rfl rfl fun P=>Zz 18 ?_
 refine bt_ [(2,zp_ d 0),(5,.slice none 0 0),(9,.slice ad ps.length cap),(10,.int .i64 (ps.length:Int)),(11,.int .i64 ((0:Nat):Int))] zl ?_;refine bQ_ (ι:={q:Nat×Value×Hp // q.1≤ps.length∧aw_ 9 1 q.2.1 q.1 ((ps.take q.1).flatMap fun p=>af_ p.operand) q.2.2}) (fun q=>[(2,zp_ d 0),(5,q.1.2.1),(9,.slice ad ps.length cap),(10,.int .i64 (ps.length:Int)),(11,.int .i64 (q.1.1:Int))]) (fun q=>_::_::q.1.2.2) (fun _=>_) (fun q=>ps.length - q.1.1) ⟨(0,.slice none 0 0,[]),by simp,aw_.nil _ _⟩ ?_;rintro ⟨⟨i,sv,Hr⟩,hk⟩;dsimp only at hk;refine bt_ [(2,zp_ d 0),(5,sv),(9,.slice ad ps.length cap),(10,.int .i64 (ps.length:Int)),(11,.int .i64 (i:Int))] zl ?_;refine Zj 2 (fun A=>?_) fun A=>?_
 ·obtain rfl:i=ps.length:=by omega
  obtain⟨g,cp,cur,rfl,rfl,K,O,Q,C⟩:=hk.2.some za_;rw[List.take_length]at C;refine Zz 9 ?_;refine g_ (vv_ (ps.map Con.operand) [32,97,110,100,32] zj_ (nN_ (n:=ps.length) (by rw[C,List.flatMap_map])) (by simpa using K) zn_ hl) rfl (@List.perm_append_comm _ [_,_] _) zf rfl fun _=>?_;refine Zz 4 ?_;exact ae_ Tryz.results233 () (fH_ rfl (by rw[Con.text_eq];simp[Con.kind,Con.parts,H])) (.refl _) zt
 have B:i<ps.length:=by omega
 obtain⟨p,I⟩:∃ p,ps[i]? = some p:=⟨_,List.getElem?_eq_getElem B⟩;have G:p∈ps:=List.mem_of_getElem? I;refine Zz 10 ?_;refine e_ (Q_ ad_ I_ rfl rfl (fun v _ h=>as_ (n:=5) Con.cells_len ze_ (((Con.mem_iff (.mk k nm lo hi ad cap ps) v).1 h.1).1) I) za_ zg_) rfl ?_;refine e_ (aj_ (ad:=ad) (us:=p.cells) aH_ I_ rfl (fun v _ h=>((Con.mem_iff (.mk k nm lo hi ad cap ps) v).1 h.1).1) (Con.cells_len _) (o_ Con.cells_len I)) rfl (G_ bT_ rfl fun M=>fd_ 0 I_ rfl rfl rfl rfl (Zz 5 ?_));refine e_ (dc_ 0 aH_ I_ rfl rfl) rfl (g_ (E p G) rfl (.refl _) (fun v _ h=>⟨Con.mem_part (c:=(.mk k nm lo hi ad cap ps)) h.1 G,h.2.1,h.2.2.1,trivial⟩) rfl fun _=>U_ l_ E_ av_ rfl rfl rfl rfl rfl rfl fun L=>?_);refine an_ elt39 hk.2 rfl rfl (@List.perm_append_comm _ [_,_,_,_] _) rfl (aO_ 0 rfl) (jN_ rfl) zm_ za_ rfl fun e x y=>?_;refine z_ (@List.perm_append_comm _ _ [_,_,_,_]) (Zz 8 ?_);exact x_ ⟨(i+1,e,x),B,by rw[Con.take_snoc I,List.flatMap_append];exact y⟩ zn_ zl (F:=[_,_]) (@List.perm_append_comm _ [_,_] _) zh
theorem xb_ (c:Con) (m n:Nat) (x:c.kind=6) (d:c.parts.length=1) (hl:c.text.length≤140737488355328) (e:∀ p∈c.parts,Tri Tryz.prog 251 #[prV m n,p.val] [] [p.memF,prF m,cj_] (fun _:Unit=>str p.operand) (fun _=>[]) (fun _=>[])):Tri Tryz.prog 234 #[prV m n,c.val] [] [c.memF,prF m,cj_] (fun _:Unit=>str c.text) (fun _=>[]) (fun _=>[]):=by
  obtain⟨k,nm,lo,hi,ad,cap,ps⟩:=c;simp only[Con.kind,Con.parts]at x d e;obtain⟨p,rfl⟩:=List.length_eq_one_iff.1 d;have y:[p][0]? = some p:=rfl;have q:p∈[p]:=List.mem_singleton.2 rfl;have A:(Con.mk k nm lo hi ad cap [p]).text=Lib.join [[115,111,109,101],nm,p.operand] [32]:=by rw[Con.text_eq];simp[Con.kind,Con.parts,Con.name,x]
  rw[A]at hl;refine i_ Tryz.func234 rfl rfl Tryz.ntmps234 rfl fun E=>?_;refine Zz 2 ?_;refine aa_ rfl rfl fun C=>aa_ rfl rfl fun F=>Zz 5 ?_
  refine J_ 4 [0,1,2,3,4,5,6] zk zs (Zz 5 ?_);refine N_ rfl (Q_ ad_ I_ rfl rfl (fun v _ h=>as_ (n:=5) Con.cells_len ze_ (((Con.mem_iff (.mk k nm lo hi ad cap [p]) v).1 h.1).1) y) za_ zg_) rfl ?_;refine N_ rfl (aj_ (ad:=ad) (us:=p.cells) aH_ I_ rfl (fun v _ h=>((Con.mem_iff (.mk k nm lo hi ad cap [p]) v).1 h.1).1) (Con.cells_len _) (o_ Con.cells_len y)) rfl (bv_ (s_ 7 rfl zk (g_ (e p q) rfl (.refl _) (fun v _ h=>⟨Con.mem_part (c:=.mk k nm lo hi ad cap [p]) h.1 q,h.2.1,h.2.2.1,trivial⟩) rfl fun _=>Zz 3 ?_)));refine s_ 8 rfl zk (U_ l_ E_ av_ rfl rfl rfl rfl rfl rfl fun B=>Zz 3 ?_);refine s_ 9 rfl zk (g_ (sm_ [[115,111,109,101],nm,p.operand] rfl (ss_ _) zj_ hl) rfl (.refl _) zf rfl fun _=>Zz 3 ?_);refine J_ 0 [10] zk zs (Zz 5 ?_);exact ae_ Tryz.results234 () (fH_ rfl A.symm) (.refl _) zt
theorem xa_ (c:Con) (m n:Nat) (d:c.kind=7) (e:c.ok) (hl:c.text.length≤140737488355328):Tri Tryz.prog 235 #[prV m n,c.val] [] [c.memF,prF m,cj_] (fun _:Unit=>str c.text) (fun _=>[]) (fun _=>[]):=by
  obtain⟨k,nm,lo,hi,ad,cap,ps⟩:=c;simp only[Con.kind]at d;obtain⟨_,_,_,v,q,x,h,_⟩:=e;have y:(Con.mk k nm lo hi ad cap ps).text=Lib.join [nm,[105,110],Lib.itoa lo,[116,111],Lib.itoa hi] [32]:=by rw[Con.text_eq];simp[Con.kind,Con.name,Con.lo,Con.hi,d]
  rw[y]at hl;refine i_ Tryz.func235 rfl rfl Tryz.ntmps235 rfl fun B=>?_;refine Zz 2 ?_;refine aa_ rfl rfl fun C=>aa_ rfl rfl fun E=>Zz 5 ?_
  refine J_ 5 [0,1,2,3,5,6] zk zs (Zz 7 ?_);refine s_ 4 rfl zk (g_ (vx_ _ v q) rfl (.refl _) zf rfl fun _=>Zz 3 ?_);refine s_ 7 rfl zk (g_ (vx_ _ x h) rfl (.refl _) zf rfl fun _=>Zz 3 ?_);refine s_ 8 rfl zk (U_ l_ E_ av_ rfl rfl rfl rfl rfl rfl fun A=>Zz 3 ?_);refine s_ 9 rfl zk (g_ (sm_ [nm,[105,110],Lib.itoa lo,[116,111],Lib.itoa hi] rfl (ss_ _) zj_ hl) rfl (.refl _) zf rfl fun _=>Zz 3 ?_);refine J_ 0 [10] zk zs (Zz 5 ?_);exact ae_ Tryz.results235 () (fH_ rfl y.symm) (.refl _) zt
theorem wZ_ (m n:Nat):∀ (d:Nat) (c:Con),c.sz≤d→c.sz≤64→c.ok→c.fine→Tri Tryz.prog 214 #[prV m n,c.val] [] [c.memF,prF m,cj_] (fun _:Unit=>str c.text) (fun _=>[]) (fun _=>[]):=by
 intro d
 induction d with
 | zero=>intro c h;have:=c.sz_pos;omega
 | succ d ih =>
   intro c G C e v;have F:=Con.fields v;have hl:=Con.text_len _ c (Nat.le_refl _) e v
   have q:∀ p∈c.parts,Tri Tryz.prog 251 #[prV m n,p.val] [] [p.memF,prF m,cj_] (fun _:Unit=>str p.operand) (fun _=>[]) (fun _=>[]):=fun p k=>by
     have E:=Con.sz_part k;have hl:=Con.text_len _ p (Nat.le_refl _) (Con.ok_part e k) (Con.fine_part v k);exact ru_ p m n za_ (ih p za_ za_ (Con.ok_part e k) (Con.fine_part v k))
   have A:=F.k1;have B:=F.k7;have hm:=F.mo;have x:=F.le;have hk:c.kind=1∨c.kind=2∨c.kind=3∨c.kind=4∨c.kind=5∨c.kind=6∨c.kind=7:=by omega
   rcases hk with hk|hk|hk|hk|hk|hk|hk
   · exact fU_ c m n zF_ (pr_top c m n hk)
   · exact fU_ c m n zF_ (tt_ c m n hk)
   · exact fU_ c m n zF_ (uV_ c m n hk)
   · exact fU_ c m n zF_ (rv_ c m n hk F.nm)
   · have y:c.text=Lib.join (c.parts.map Con.operand) [32,97,110,100,32]:=by rw[Con.text_eq];simp[hk]
     rw[hk]at hm x;simp[nd,ex_]at hm x
     exact fU_ c m n zF_ (pr_and c m n hk ⟨by omega,by omega⟩ (by rw[← y];omega) q)
   · rw[hk]at hm x
     simp[nd,ex_]at hm x
     exact fU_ c m n zF_ (xb_ c m n hk za_ za_ q)
   · exact fU_ c m n zF_ (xa_ c m n hk e za_)
theorem pZ_ (c:Con) (h:c.ok):Tri Tryz.prog 191 #[c.val] [] [c.memF,cj_] (fun _:Unit=>.tuple #[str c.textN,.int .i64 c.check]) (fun _=>[]) (fun _=>[]):=by
 obtain⟨k,nm,lo,hi,ad,cap,ps⟩:=c;refine i_ Tryz.func191 rfl rfl Tryz.ntmps191 rfl fun v=>?_;refine Zz 2 ?_;refine aa_ rfl rfl fun x=>Zz 8 ?_
 refine g_ (eM_ (.mk k nm lo hi ad cap ps) h) rfl (.refl _) zf rfl fun _=>Zj 6 (fun d=>?_) fun d=>?_
 ·obtain⟨e,m⟩:=Con.check_zero d
  refine Zz 7 ?_;refine J_ 4 [1] zk zs (Zz 2 ?_);refine s_ 0 rfl zk (g_ (oM_) rfl (.refl _) zt rfl fun q=>Zz 3 ?_);refine s_ 2 rfl zk (g_ (wZ_ q.1 q.2 _ (.mk k nm lo hi ad cap ps) (Nat.le_refl _) m h e) rfl (.refl _) zf rfl fun _=>Zz 3 ?_);refine J_ 0 [3,4] zk zs (Zz 6 ?_);exact kv_ Tryz.results191 () rfl rfl (by simp[Con.textN, *]<;>rfl) (.refl _) zt
 refine Zz 11 ?_;exact kv_ Tryz.results191 () rfl rfl (by simp[Con.textN, *]<;>rfl) (.refl _) zt
theorem xm_ (c:Con) (d:c.ok):Tri Tryz.prog 156 #[c.val] [] [c.memF,cj_] (fun _:Unit=>str c.textN) (fun _=>[]) (fun _=>[]):=by
  obtain⟨k,nm,lo,hi,ad,cap,ps⟩:=c;refine i_ Tryz.func156 rfl rfl Tryz.ntmps156 rfl fun m=>?_;refine Zz 2 ?_;refine aa_ rfl rfl fun e=>Zz 6 ?_
  refine g_ (pZ_ (.mk k nm lo hi ad cap ps) d) rfl (.refl _) (fun v _ h=>h) rfl fun _=>Zz 14 ?_
  exact ae_ Tryz.results156 () rfl (.refl _) zt
theorem fF_ (s:Str) (e:s.length≤140737488351232) :
    Fn0 Tryz.prog 112 #[str s] (str ([123]++s++[125])):=by
  refine i_ Tryz.func112 rfl rfl Tryz.ntmps112 rfl fun d=>?_;refine Zz 8 ?_;refine e_ (em_ rfl rfl zn_) rfl ?_;refine e_ (em_ rfl rfl zn_) rfl ?_;refine Zz 4 ?_;exact ae_ Tryz.results112 () rfl (.refl _) zt
theorem fO_ {G:Prop} (h:G:=by
 exact ae_ Tryz.results111 () (fH_ rfl (by unfold Con.atom;simp only[Con.kind,Con.name]at *;simp[*])) (.refl _) zt):G:=h
theorem dt_ (c:Con) (d:c.ok):Tri Tryz.prog 111 #[c.val] [] [c.memF,cj_] (fun _:Unit=>str c.atom) (fun _=>[]) (fun _=>[]):=by
 obtain⟨k,nm,lo,hi,ad,cap,ps⟩:=c;refine i_ Tryz.func111 rfl rfl Tryz.ntmps111 rfl fun y=>?_;refine Zz 2 ?_;refine aa_ rfl rfl fun A=>Zj 13 (fun x=>?_) fun x=>?_
 ·refine Zj 6 (fun m=>?_) fun m=>?_
  ·refine Zj 6 (fun e=>?_) fun e=>?_
   ·refine Zj 6 (fun q=>?_) fun q=>?_
    ·refine Zz 9 ?_
     refine g_ (xm_ (.mk k nm lo hi ad cap ps) d) rfl (.refl _) (fun v _ h=>h) rfl fun _=>?_;refine e_ (em_ rfl rfl zab_) rfl ?_;refine e_ (em_ rfl rfl zab_) rfl ?_;refine Zz 4 ?_;exact fO_
    refine Zz 8 ?_;refine g_ (fF_ nm (Con.ok_name d)) rfl (.refl _) zt rfl fun _=>Zz 4 ?_
    exact fO_
   refine Zz 12 ?_;exact fO_
  refine Zz 10 ?_;exact fO_
 refine Zz 10 ?_;exact fO_
theorem eqPc (p q:Pc) (w:World):(Op.equalIn 10000 174 p.val q.val).run Tryz.prog w=.ok (decide (p=q)) w:=by
  have h:=run_equalIn_struct (P:=Tryz.prog) w 9999 174 p.cells.toArray q.cells.toArray (by simp only[Program.fieldsOf,eW_]) Tryz.stoodInHeld174;refine h.trans ?_;rw[← Pc.eqb_eq];simp only[Program.fieldsOf,eW_];exact bN_ rfl aN_ rfl rfl (eqI p_ w) (bN_ rfl W_ rfl rfl (eqS aF_ w) (bN_ rfl W_ rfl rfl (eqS aF_ w) (bN_ rfl W_ rfl rfl (eqS aF_ w) (bN_ rfl W_ rfl rfl (eqS aF_ w) (bN_ rfl W_ rfl rfl (eqS aF_ w) (bN_ rfl W_ rfl rfl (eqS aF_ w) (bN_ rfl aN_ rfl rfl (eqI p_ w) (bN_ rfl aN_ rfl rfl (eqI p_ w) (bN_ rfl aN_ rfl rfl (eqI p_ w) (jX_ w))))))))))
theorem eqFc (p q:Fc) (w:World):(Op.equalIn 10000 36 p.val q.val).run Tryz.prog w=.ok (decide (p=q)) w:=by
  have h:=run_equalIn_struct (P:=Tryz.prog) w 9999 36 p.cells.toArray q.cells.toArray (by simp only[Program.fieldsOf,Tryz.underlying36]) Tryz.stoodInHeld36;refine h.trans ?_;rw[← Fc.eqb_eq];simp only[Program.fieldsOf,Tryz.underlying36];exact bN_ rfl aN_ rfl rfl (eqI p_ w) (bN_ rfl W_ rfl rfl (eqS aF_ w) (bN_ rfl W_ rfl rfl (eqS aF_ w) (bN_ rfl W_ rfl rfl (eqS aF_ w) (bN_ rfl aN_ rfl rfl (eqI p_ w) (bN_ rfl aN_ rfl rfl (eqI p_ w) (jX_ w))))))
theorem sI_ (p:Pc):gZ_ Tryz.prog 174 p.val:=fun e w=>by
 have hi:∀ (n:Int) (w:World),(Instr.checkKey e (9998+1) 3 (.int .i64 n)).run Tryz.prog w=.ok () w:=fun n w=>MapKept.run_checkKey (d:=.int .i64) p_ zai_ e 9998
 have h:∀ (n:Str) (w:World),(Instr.checkKey e (9998+1) 9 (str n)).run Tryz.prog w=.ok () w:=fun n w=>MapKept.run_checkKey (d:=.string) aF_ zY_ e 9998
 refine ckF (n:=9999) eW_ fun f k=>?_;simp only[List.mem_cons,List.not_mem_nil,or_false]at k;rcases k with rfl|rfl|rfl|rfl|rfl|rfl|rfl|rfl|rfl|rfl
 ·exact⟨rfl,aN_,_,rfl,hi _⟩
 ·exact⟨rfl,W_,_,rfl,h _⟩
 ·exact⟨rfl,W_,_,rfl,h _⟩
 ·exact⟨rfl,W_,_,rfl,h _⟩
 ·exact⟨rfl,W_,_,rfl,h _⟩
 ·exact⟨rfl,W_,_,rfl,h _⟩
 ·exact⟨rfl,W_,_,rfl,h _⟩
 ·exact⟨rfl,aN_,_,rfl,hi _⟩
 ·exact⟨rfl,aN_,_,rfl,hi _⟩
 exact⟨rfl,aN_,_,rfl,hi _⟩
theorem vP_:Elt Tryz.prog 63 174 10 128:=iZ_ Tryz.underlying63 (z:=.agg (Pc.mk 0 [] [] [] [] [] [] 0 0 0).cells.toArray) zd_ rfl ze_
theorem df_:hN_ Tryz.prog 174 [(0,1),(1,1),(2,1),(3,1),(4,1),(5,1),(6,1),(7,1),(8,1),(9,1)] [.int .i64 0,str [],str [],str [],str [],str [],str [],.int .i64 0,.int .i64 0,.int .i64 0]:=⟨_,P_,ct_,fun w=>by simp[ak_,E_]⟩
theorem eC_:hN_ Tryz.prog 36 [(0,1),(1,1),(2,1),(3,1),(4,1),(5,1)] [.int .i64 0,str [],str [],str [],.int .i64 0,.int .i64 0]:=⟨_,X_,cL_,fun w=>by simp[ak_,E_]⟩
structure CS where
  sv:Value
  bm:Nat
  es:Array MapEntry
  clk:Nat
  Hr:Hp
def gv_ (kb:Nat) (frm:Int) (q:CS):Hp:=(kb,.cells #[.int .i64 frm,q.sv,.map (some q.bm)] 114 (0,0))::(q.bm,.map q.es q.clk)::q.Hr
structure CInv (l:List Pc) (q:CS):Prop where
  row:aw_ 174 10 q.sv l.length (l.flatMap Pc.cells) q.Hr
  keys:q.es.toList.map (·.key)=l.map Pc.val
  vals:∀ x∈q.es.toList,x.val=.bool true
theorem CInv.push {l:List Pc} {p:Pc} {sv d:Value} {bm clk:Nat} {es:Array MapEntry} {Hr e:Hp} (h:CInv l ⟨sv,bm,es,clk,Hr⟩) (m:aw_ 174 10 d (l.length+1) (l.flatMap Pc.cells++p.cells) e):CInv (l++[p]) ⟨d,bm,es.push ⟨p.val,.bool true,clk⟩,clk+1,e⟩:=by
 refine⟨?_,?_,?_⟩
 ·simpa [List.flatMap_append] using m
 ·have:=h.keys
  simp only at this;simp[this]
 intro x k;simp only[Array.toList_push,List.mem_append,List.mem_singleton]at k;rcases k with k|rfl
 ·exact h.vals x k
 rfl
theorem ea_ (p:Pc) {kb C:Nat} (frm:Int) (l:List Pc) (q:CS) (B:CInv l q) (N:l.length≤100000) :
    Tri Tryz.prog 110 #[zp_ kb 0,.slice (some ⟨C,0,none⟩) 1 1] ((C,.cells p.cells.toArray 174 (0,0))::gv_ kb frm q) [] (fun _:{K:CS // CInv (ins frm l p) K}=>.tuple #[]) (fun K=>gv_ kb frm K.1) (fun _=>[]):=by
  obtain⟨k,a,b,c,r,s,t,lo,hi,f⟩:=p;obtain⟨sv,bm,es,clk,Hr⟩:=q;refine i_ Tryz.func110 rfl rfl Tryz.ntmps110 rfl fun O=>?_;refine Zz 8 ?_;refine bt_ [(0,zp_ kb 0),(6,.slice (some ⟨C,0,none⟩) 1 1),(7,.int .i64 1),(8,.int .i64 ((0:Nat):Int))] zl ?_;refine bQ_ (ι:={x:Nat×CS // (x.1=0∧x.2=⟨sv,bm,es,clk,Hr⟩)∨(x.1=1∧CInv (ins frm l ⟨k,a,b,c,r,s,t,lo,hi,f⟩) x.2)}) (fun x=>[(0,zp_ kb 0),(6,.slice (some ⟨C,0,none⟩) 1 1),(7,.int .i64 1),(8,.int .i64 (x.1.1:Int))]) (fun x=>_::gv_ kb frm x.1.2) (fun _=>_) (fun x=>1 - x.1.1) ⟨(0,⟨sv,bm,es,clk,Hr⟩),.inl ⟨rfl,rfl⟩⟩ ?_;rintro ⟨⟨i,L⟩,hk⟩;dsimp only at hk;rcases hk with⟨rfl,rfl⟩|⟨rfl,P⟩
  · skip
    refine bt_ [(0,zp_ kb 0),(6,.slice (some ⟨C,0,none⟩) 1 1),(7,.int .i64 1),(8,.int .i64 0)] zl ?_;refine Zj 2 (fun e=>?_) fun e=>?_
    · skip
      exact absurd ze_ e
    · skip
      refine Zz 10 ?_;refine e_ (eU_ D_ F_ rfl rfl ze_ ze_) rfl (Zz 1 ?_);refine G_ P_ rfl fun I=>u_ 0 F_ rfl rfl rfl rfl rfl rfl (Zz 9 ?_)
      refine u_ 0 ak_ rfl rfl rfl rfl rfl rfl (Zz 3 ?_)
      by_cases hm:(⟨k,a,b,c,r,s,t,lo,hi,frm⟩:Pc)∈l
      · skip
        obtain⟨j,J⟩:=(hz_ eW_ (fun p q w=>eqPc p q w) (⟨k,a,b,c,r,s,t,lo,hi,frm⟩:Pc) l es.toList B.keys).2 hm B.vals;refine Zz 1 ?_;refine J_ 0 [0,1,2,3,4,5,6] zk zs (Zz 5 ?_);refine N_ rfl (eR_ iX_ rfl rfl (fun v h _=>(h.own _ (List.mem_of_getElem? (i:=3) rfl)).1) (sI_ (⟨k,a,b,c,r,s,t,lo,hi,frm⟩:Pc)) J) rfl (N_ rfl (ax_ rfl) rfl (Zz 11 ?_));exact x_ ⟨(1,⟨sv,bm,es,clk,Hr⟩),.inr ⟨rfl,by simp only[ins,if_pos hm];exact B⟩⟩ Nat.zero_lt_one zl (F:=[_]) (@List.perm_append_comm _ [_] _) zh
      · skip
        have J:=(hz_ eW_ (fun p q w=>eqPc p q w) (⟨k,a,b,c,r,s,t,lo,hi,frm⟩:Pc) l es.toList B.keys).1 hm;refine Zz 1 ?_;refine J_ 0 [0,1,2,3,4,5,6] zk zs (Zz 5 ?_);refine N_ rfl (eA_ iX_ az_ rfl rfl (fun v h _=>(h.own _ (List.mem_of_getElem? (i:=3) rfl)).1) (sI_ (⟨k,a,b,c,r,s,t,lo,hi,frm⟩:Pc)) J) rfl (N_ rfl (ax_ rfl) rfl (Zz 5 ?_));refine ag_ [(I,.cells #[.int .i64 k,str a,str b,str c,str r,str s,str t,.int .i64 lo,.int .i64 hi,.int .i64 frm] 174 (0,0)),(C,.cells #[.int .i64 k,str a,str b,str c,str r,str s,str t,.int .i64 lo,.int .i64 hi,.int .i64 f] 174 (0,0)),(kb,.cells #[.int .i64 frm,sv,.map (some bm)] 114 (0,0))] zk ?_;refine J_ 1 [0,1,2,3,4] zk (fun _ a b=>⟨Vw.sat.sub a,b⟩) (Zz 6 ?_);refine s_ 5 rfl zk (aQ_ 3 (.inr rfl) iX_ rfl rfl rfl rfl (sI_ (⟨k,a,b,c,r,s,t,lo,hi,frm⟩:Pc)) J (Zz 2 ?_));refine O_ (fun _ a b=>⟨Vw.sat.sub a,b⟩) (Zz 2 ?_);refine ag_ [(I,.cells #[.int .i64 k,str a,str b,str c,str r,str s,str t,.int .i64 lo,.int .i64 hi,.int .i64 frm] 174 (0,0))] zk ?_;refine J_ 6 [0,1,2,3,5] zk (fun _ a b=>⟨Vw.sat.sub a,b⟩) (Zz 6 ?_);refine gx_ 4 6 rfl rfl zk ?_ ?_
        · skip
          refine Zz 3 ?_;refine O_ (fun _ a b=>⟨Vw.sat.sub a,b⟩) (s_ 6 rfl zk (U_ D_ F_ P_ rfl rfl rfl rfl rfl rfl fun M=>Zz 2 ?_));refine O_ (fun _ a b=>⟨Vw.sat.sub a.tail,b⟩) (s_ 7 rfl zk (an_ (news:=Pc.cells (⟨k,a,b,c,r,s,t,lo,hi,frm⟩:Pc)) vP_ B.row rfl rfl (@List.perm_append_comm _ [_,_,_,_,_] _) rfl (aO_ 0 rfl) (jN_ rfl) zm_ za_ rfl fun E G d=>?_));refine z_ (@List.perm_append_comm _ _ [_,_,_,_,_]) ?_;obtain⟨A,y,m,rfl,rfl,H⟩:=d.some za_;refine Zz 2 ?_;refine O_ (fun _ a b=>⟨Vw.sat.sub a.tail,b⟩) (J_ 1 [8,9] zk (fun _ a b=>⟨Vw.sat.sub a.tail,b⟩) (Zz 3 ?_));refine s_ 10 rfl zk (u_ 3 yj_ rfl rfl rfl rfl rfl rfl (Zz 2 ?_));refine O_ (fun _ a b=>⟨Vw.sat.sub a.tail,b⟩) (Zz 7 ?_);exact x_ ⟨(1,⟨.slice (some ⟨A,0,none⟩) (l.length+1) y,bm,es.push ⟨Pc.val (⟨k,a,b,c,r,s,t,lo,hi,frm⟩:Pc),.bool true,clk⟩,clk+1,[(A,.cells m 174 (0,0))]⟩),.inr ⟨rfl,by simp only[ins,if_neg hm];exact B.push d⟩⟩ Nat.zero_lt_one zl (F:=[_,_]) (@List.perm_append_comm _ [_,_] _) zh
        · skip
          refine U_ D_ F_ P_ rfl rfl rfl rfl rfl rfl fun M=>Zz 2 ?_
          refine O_ (fun _ a b=>⟨Vw.sat.sub a.tail,b⟩) (s_ 4 rfl zk (Zz 3 ?_));refine O_ (fun _ a b=>⟨Vw.sat.sub a.tail,b⟩) (s_ 7 rfl zk (an_ (news:=Pc.cells (⟨k,a,b,c,r,s,t,lo,hi,frm⟩:Pc)) vP_ B.row rfl rfl (@List.perm_append_comm _ [_,_,_,_,_] _) rfl (aO_ 0 rfl) (jN_ rfl) zm_ za_ rfl fun E G d=>?_));refine z_ (@List.perm_append_comm _ _ [_,_,_,_,_]) ?_;obtain⟨A,y,m,rfl,rfl,H⟩:=d.some za_;refine Zz 2 ?_;refine O_ (fun _ a b=>⟨Vw.sat.sub a.tail,b⟩) (J_ 1 [8,9] zk (fun _ a b=>⟨Vw.sat.sub a.tail,b⟩) (Zz 3 ?_));refine s_ 10 rfl zk (u_ 3 yj_ rfl rfl rfl rfl rfl rfl (Zz 2 ?_));refine O_ (fun _ a b=>⟨Vw.sat.sub a.tail,b⟩) (Zz 7 ?_);exact x_ ⟨(1,⟨.slice (some ⟨A,0,none⟩) (l.length+1) y,bm,es.push ⟨Pc.val (⟨k,a,b,c,r,s,t,lo,hi,frm⟩:Pc),.bool true,clk⟩,clk+1,[(A,.cells m 174 (0,0))]⟩),.inr ⟨rfl,by simp only[ins,if_neg hm];exact B.push d⟩⟩ Nat.zero_lt_one zl (F:=[_,_]) (@List.perm_append_comm _ [_,_] _) zh
  · skip
    refine bt_ [(0,zp_ kb 0),(6,.slice (some ⟨C,0,none⟩) 1 1),(7,.int .i64 1),(8,.int .i64 1)] zl ?_;refine Zj 2 (fun e=>?_) fun e=>?_
    · skip
      refine Zz 6 ?_;exact cl_ Tryz.results110 ⟨L,P⟩ rfl (F:=[_]) (@List.perm_append_comm _ [_] _) zt
    · skip
      exact absurd e ze_
theorem wH_:hN_ Tryz.prog 114 [(0,1),(1,1),(2,1)] [.int .i64 0,.slice none 0 0,.map none]:=⟨_,Tryz.zeroValue114,ca_,fun w=>by simp[ak_,yj_,Tryz.sizeOf112]⟩
theorem mS_ (frm:Int):Tri Tryz.prog 69 #[.int .i64 frm] [] [] (fun x:Nat×Nat=>zp_ x.1 0) (fun x=>gv_ x.1 frm ⟨.slice none 0 0,x.2,#[],0,[]⟩) (fun _=>[]):=by
  refine i_ Tryz.func69 rfl rfl Tryz.ntmps69 rfl fun h=>?_;refine Zz 8 ?_;refine aY_ rfl fun e=>e_ (H_ wH_ rfl rfl) rfl (aa_ rfl rfl fun d=>Zz 4 ?_)
  exact ae_ Tryz.results69 (d,e) rfl (F:=[]) (.refl _) zt
def kF (b kb:Nat):Fct:=bW_ b (.cells [zp_ kb 0].toArray 109 (0,0))
def lFn (b bk:Nat):Value:=.func (.func 154) #[] #[zp_ b 0,zp_ bk 0]
def lF (b bk:Nat):Fct:=bW_ b (.cells [lFn b bk].toArray 145 (0,0))
def rFn (b bk:Nat):Value:=.func (.func 155) #[] #[zp_ bk 0,zp_ b 0]
def rcF (b bk:Nat):Fct:=bW_ b (.cells [rFn b bk].toArray 145 (0,0))
theorem wO_ (kb:Nat):Tri Tryz.prog 109 #[zp_ kb 0] [] [] (fun x:Nat×Nat×Nat=>.tuple #[lFn x.2.1 x.1,rFn x.2.2 x.1]) (fun _=>[]) (fun x=>[kF x.1 kb,lF x.2.1 x.1,rcF x.2.2 x.1]):=by
  refine i_ Tryz.func109 rfl rfl Tryz.ntmps109 rfl fun y=>?_;refine Zz 2 ?_;refine aa_ rfl rfl fun d=>G_ Tryz.zeroValue145 rfl fun e=>G_ Tryz.zeroValue145 rfl fun k=>Zz 4 ?_
  refine e_ (bI_ rfl rfl) rfl (u_ 1 Tryz.sizeOf145 rfl rfl rfl rfl rfl rfl (Zz 4 ?_));refine e_ (bI_ rfl rfl) rfl (u_ 0 Tryz.sizeOf145 rfl rfl rfl rfl rfl rfl (Zz 4 ?_));refine J_ 2 [0,1] zk zs (Zz 3 ?_);refine s_ 2 rfl zk (u_ 1 Tryz.sizeOf145 rfl rfl rfl rfl rfl rfl (Zz 3 ?_));refine s_ 3 rfl zk (u_ 0 Tryz.sizeOf145 rfl rfl rfl rfl rfl rfl (Zz 6 ?_));refine il_ 0 rfl ?_;refine il_ 0 rfl ?_;refine il_ 0 rfl ?_;exact retG (d,e,k) (fun a v m q h=>wW_ Tryz.results109 jy_ jy_ m rfl rfl (mQ_ (cs:=[lFn e d]) 0 h.2.1 rfl) (mQ_ (cs:=[rFn k d]) 0 h.2.2.1 rfl)) (F:=[]) (.refl _) zf
theorem Con.mem_tail {c:Con} (d:c.ok) {v:Vw} (h:c.mem v):bA_ v (sad c.ad c.cap 1 5) ((c.parts.drop 1).flatMap Con.cells):=by
  have:=((Con.mem_iff c v).1 h).1.slice Con.cells_len (Con.ok_len d).1 1 c.parts.length;rwa [List.take_of_length_le zj_]at this
theorem Con.drop_at {ps:List Con} {p:Con} {i:Nat} (d:ps[i]? = some p):ps.drop i=p::ps.drop (i+1):=by
  have hi:=(List.getElem?_eq_some_iff.1 d).1;rw[List.getElem?_eq_getElem hi]at d;simp only[Option.some.injEq]at d;subst d;exact List.drop_eq_getElem_cons hi
theorem Con.szs_append:∀ (d ys:List Con),Con.sz.szs (d++ys)=Con.sz.szs d+Con.sz.szs ys
  | [],ys=>by simp[Con.sz.szs]
  | x::d,ys=>by simp only[List.cons_append,Con.sz.szs,Con.szs_append d ys];omega
theorem Con.sz_at {ps:List Con} {p:Con} {i:Nat} (d:ps[i]? = some p):Con.sz.szs (ps.take i)+p.sz≤Con.sz.szs ps:=by
  have e:Con.sz.szs ps=Con.sz.szs (ps.take i++(p::ps.drop (i+1))):=by rw[← Con.drop_at d,List.take_append_drop]
  rw[e,Con.szs_append];simp only[Con.sz.szs];omega
theorem Con.lefts_len (frm:Int) (ps:List Con) (i:Nat) (l:List Pc):(Con.leftP.lefts frm (ps.take i) l).length+(ps.take i).length≤l.length+2*Con.sz.szs (ps.take i):=by
  generalize ps.take i=qs
  induction qs generalizing l with
  | nil=>simp[Con.leftP.lefts]
  | cons p qs ih =>
    have e:=Con.leftP_len frm _ p (Nat.le_refl _) l;have d:=ih (p.leftP frm l);simp only[Con.leftP.lefts,Con.sz.szs,List.length_cons];omega
theorem Con.rights_len (frm:Int) (a:Str) (ps:List Con) (i:Nat) (l:List Pc):(Con.rightP.rights frm a (ps.take i) l).length≤l.length+2*Con.sz.szs (ps.take i):=by
  generalize ps.take i=qs
  induction qs generalizing l with
  | nil=>simp[Con.rightP.rights]
  | cons p qs ih =>
    have h:=bw_ frm l ⟨1,a,[],p.atom,[],[],[],0,0,0⟩;have d:=Con.rightP_len frm _ p (Nat.le_refl _) (ins frm l ⟨1,a,[],p.atom,[],[],[],0,0,0⟩);have e:=ih (p.rightP frm (ins frm l ⟨1,a,[],p.atom,[],[],[],0,0,0⟩));simp only[Con.rightP.rights,Con.sz.szs];omega
theorem Con.headD_atom {ps:List Con} {p:Con} (d:ps[0]? = some p):(ps.map Con.atom).headD []=p.atom:=by cases ps<;>simp_all
theorem Con.leftP5 {c:Con} (h:c.kind=5) (frm:Int) (l:List Pc):c.leftP frm l=Con.andP frm c (c.parts.drop 1) 1 ((c.parts.map Con.atom).headD []) (Con.leftP.lefts frm c.parts l):=by rw[Con.leftP_eq,if_pos h]
theorem Con.leftP6 {c p:Con} (h:c.kind=6) (d:c.parts=[p]) (frm:Int) (l:List Pc):c.leftP frm l=ins frm (p.leftP frm l) ⟨4,p.atom,[],c.atom,c.name,[],[],0,0,0⟩:=by
  rw[Con.leftP_eq,if_neg za_,if_pos h,d];rfl
theorem Con.leftP7 {c:Con} (h:c.kind=7) (frm:Int) (l:List Pc):c.leftP frm l=ins frm l ⟨9,[],[],c.atom,c.name,[],[],c.lo,c.hi,0⟩:=by rw[Con.leftP_eq,if_neg za_,if_neg za_,if_pos h]
theorem Con.leftP0 {c:Con} (d:c.kind≠5) (h:c.kind≠6) (e:c.kind≠7) (frm:Int) (l:List Pc):c.leftP frm l=l:=by rw[Con.leftP_eq,if_neg d,if_neg h,if_neg e]
theorem Con.rightP5 {c:Con} (h:c.kind=5) (frm:Int) (l:List Pc):c.rightP frm l=Con.rightP.rights frm c.atom c.parts l:=by rw[Con.rightP_eq,if_pos h]
theorem Con.rightP6 {c p:Con} (h:c.kind=6) (d:c.parts=[p]) (frm:Int) (l:List Pc):c.rightP frm l=p.rightP frm (ins frm l ⟨3,c.atom,[],p.atom,c.name,[],[],0,0,0⟩):=by
  rw[Con.rightP_eq,if_neg za_,if_pos h,d];rfl
theorem Con.rightP7 {c:Con} (h:c.kind=7) (frm:Int) (l:List Pc):c.rightP frm l=ins frm l ⟨8,c.atom,[],[],c.name,[],[],c.lo,c.hi,0⟩:=by rw[Con.rightP_eq,if_neg za_,if_neg za_,if_pos h]
theorem Con.rightP0 {c:Con} (d:c.kind≠5) (h:c.kind≠6) (e:c.kind≠7) (frm:Int) (l:List Pc):c.rightP frm l=l:=by rw[Con.rightP_eq,if_neg d,if_neg h,if_neg e]
end Go.Proofs.YtpbnmnfdgckaiaaGreatDoor
