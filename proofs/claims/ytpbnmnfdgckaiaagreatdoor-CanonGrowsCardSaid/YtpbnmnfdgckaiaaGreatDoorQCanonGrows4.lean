/-
  Part of the proof of the law CanonGrows over this seat: the small logic, the data, the contracts of functions (no condition).
-/
import Derived.Test.YtpbnmnfdgckaiaaGreatDoorQCanonGrows3
import Derived.Test.YtpbnmnfdgckaiaaGreatDoorQCanonGrows2
import Derived.Test.YtpbnmnfdgckaiaaGreatDoorProg
set_option linter.unusedVariables false
set_option linter.unusedSimpArgs false
set_option linter.unusedSectionVars false
set_option maxHeartbeats 1000000
namespace Go.Proofs.YtpbnmnfdgckaiaaGreatDoor
open Go Go.Sx Go.Proofs
attribute [local irreducible] Code.wp wpList wpAnyH
open Go.Vs
theorem mT_ {G:Prop} (h:G:=by
 refine Zz 7 ?_;exact met ⟨rfl,rfl,rfl,rfl,rfl,rfl,rfl,rfl,rfl,rfl,rfl,rfl,rfl,rfl,(o_ rfl (jaf I)),trivial⟩):G:=h
theorem jF_ {G:Prop} (h:G:=by
 exact met ⟨rfl,rfl,rfl,rfl,rfl,rfl,rfl,rfl,rfl,rfl,rfl,rfl,(o_ rfl (jot d)),trivial⟩):G:=h
theorem hw_ {G:Prop} (h:G:=by
 exact met ⟨rfl,rfl,rfl,rfl,rfl,rfl,rfl,rfl,rfl,rfl,rfl,rfl,rfl,(o_ rfl (jot d)),trivial⟩):G:=h
theorem eM_ {G:Prop} (h:G:=by
 exact af_ Tryz.results102 () (cl_ rfl (by unfold Con.fieldErr;simp only[Con.kind,Con.parts,Con.name,Con.lo,Con.hi];simp only[Q];repeat (first|rfl|exact (if_pos zr_).symm|(rw[if_pos zZ_];first|done|rfl)|(rw[if_neg zZ_])))) (.refl _) zt):G:=h
theorem oB_ (c:Con) (Z:c.ok):Tri Tryz.prog 102 #[c.val] [] [bV_] (fun _:Unit=>.int .i64 c.fieldErr) (fun _=>[]) (fun _=>[]):=by
 obtain⟨k,nm,lo,hi,ad,cap,ps⟩:=c;have a2:=Con.ok_len Z;simp only[Con.parts,Con.cap]at a2;refine j_ Tryz.func102 rfl rfl Tryz.ntmps102 rfl fun v_1=>?_;refine Zz 2 ?_;refine aa_ rfl rfl fun C=>Zz 8 ?_
 refine C_ (cv_ rfl rfl) rfl fun r_1 M=>Zz 1 ?_
 refine at_ 4 ((decide (k<1))||(decide (7<k))) (fun r=>[(0,.agg (Con.cells (Con.mk k nm lo hi ad cap ps)).toArray),(1,zp_ C 0),(2,.int .i64 0),(11,.bool r)]) ?_ fun r_2 S=>?_
 ·cases r_1
  ·have d:=M
   replace M:=zdf M;try dsimp only[Con.kind,Con.parts,Con.name,Con.lo,Con.hi,Con.cap,Con.ad]at M
   refine Zz 5 ?_;refine C_ (dx_ rfl rfl) rfl fun a4 J=>Zz 3 ?_
   exact met (zm (jof d J))
  have d:=M;replace M:=zdt M;try dsimp only[Con.kind,Con.parts,Con.name,Con.lo,Con.hi,Con.cap,Con.ad]at M
  refine Zz 6 ?_;exact met ⟨rfl,rfl,rfl,(o_ rfl (jot d)),trivial⟩
 refine Zz 2 ?_;cases r_2
 ·simp at S
  try dsimp only[Con.kind,Con.parts,Con.name,Con.lo,Con.hi,Con.cap,Con.ad]at S
  obtain⟨x,hx⟩:∃ x,eU_[k.toNat]? = some x:=⟨_,List.getElem?_eq_getElem (show k.toNat<8 by omega)⟩;have Q:nd k=x:=by simp[nd,hx]
  obtain⟨E,L,K,xb⟩:=x;refine Zz 7 ?_;refine e_ (em_ Tryz.runUnderlying201 Tryz.sizeOf200 rfl rfl zbi_ (by show k<(8:Int);omega)) rfl ?_;refine e_ (au_ (ad:=some ⟨1,0,none⟩) (k:=k.toNat*4) (us:=to_ (E,L,K,xb)) Tryz.isAgg200 Tryz.sizeOf200 rfl (fun v _ h=>h.1.1) (li_ _) (fun j y hj=>by rw[lo_ to_ 4 li_ eU_ k.toNat j _ hx (by have:=(List.getElem?_eq_some_iff.1 hj).1;rwa [li_]at this)];exact hj)) rfl ?_;refine D_ Tryz.zeroValue200 rfl fun G=>x_ 0 Tryz.sizeOf200 rfl rfl rfl rfl rfl rfl (Zz 10 ?_)
  refine C_ (cv_ rfl rfl) rfl fun a4 J=>Zz 1 ?_
  refine at_ 7 ((decide ((ps.length:Int)<L))||(decide (K<(ps.length:Int)))) (fun r=>[(0,.agg (Con.cells (Con.mk k nm lo hi ad cap ps)).toArray),(1,zp_ C 0),(2,.int .i64 0),(11,.bool false),(12,zp_ C 0),(13,.int .i64 k),(14,.pointer (some (rad (some ⟨1,0,none⟩) (k.toNat*4)))),(15,.agg #[.int .i64 E,.int .i64 L,.int .i64 K,.bool xb]),(3,zp_ G 0),(29,.bool r)]) ?_ fun r_4 N=>?_
  ·cases a4
   ·have d:=J
    replace J:=zdf J;try dsimp only[Con.kind,Con.parts,Con.name,Con.lo,Con.hi,Con.cap,Con.ad]at J
    refine Zz 11 ?_;refine C_ (dx_ rfl rfl) rfl fun a1 O=>Zz 3 ?_
    exact met (zm (jof d O))
   have d:=J;replace J:=zdt J;try dsimp only[Con.kind,Con.parts,Con.name,Con.lo,Con.hi,Con.cap,Con.ad]at J
   refine Zz 9 ?_;exact met ⟨rfl,rfl,rfl,rfl,rfl,rfl,rfl,rfl,rfl,(o_ rfl (jot d)),trivial⟩
  refine Zz 1 ?_;refine at_ 9 ((((decide ((ps.length:Int)<L))||(decide (K<(ps.length:Int)))))||(((E==0)&&(nm != [])))) (fun r=>[(0,.agg (Con.cells (Con.mk k nm lo hi ad cap ps)).toArray),(1,zp_ C 0),(2,.int .i64 0),(11,.bool false),(12,zp_ C 0),(13,.int .i64 k),(14,.pointer (some (rad (some ⟨1,0,none⟩) (k.toNat*4)))),(15,.agg #[.int .i64 E,.int .i64 L,.int .i64 K,.bool xb]),(3,zp_ G 0),(39,.bool r)]) ?_ fun a1 O=>?_
  ·cases r_4
   ·have d:=N
    simp at N
    try dsimp only[Con.kind,Con.parts,Con.name,Con.lo,Con.hi,Con.cap,Con.ad]at N
    refine Zz 5 ?_;refine C_ (bU_ rfl rfl) rfl fun V e=>Zz 2 ?_
    refine at_ 4 ((E==0)&&(nm != [])) (fun r=>[(0,.agg (Con.cells (Con.mk k nm lo hi ad cap ps)).toArray),(1,zp_ C 0),(2,.int .i64 0),(11,.bool false),(12,zp_ C 0),(13,.int .i64 k),(14,.pointer (some (rad (some ⟨1,0,none⟩) (k.toNat*4)))),(15,.agg #[.int .i64 E,.int .i64 L,.int .i64 K,.bool xb]),(3,zp_ G 0),(30,.bool false),(38,.bool r)]) ?_ fun X H=>?_
    ·cases V
     ·have I:=e
      replace e:=znb e;try dsimp only[Con.kind,Con.parts,Con.name,Con.lo,Con.hi,Con.cap,Con.ad]at e
      refine Zz 7 ?_;exact met ⟨rfl,rfl,rfl,rfl,rfl,rfl,rfl,rfl,rfl,rfl,(o_ rfl (jaf I)),trivial⟩
     have I:=e;replace e:=zeb e;try dsimp only[Con.kind,Con.parts,Con.name,Con.lo,Con.hi,Con.cap,Con.ad]at e
     refine Zz 5 ?_;refine C_ (cZ_ rfl rfl) rfl fun U q=>Zz 4 ?_
     exact met ⟨rfl,rfl,rfl,rfl,rfl,rfl,rfl,rfl,rfl,rfl,(o_ rfl (jat I q)),trivial⟩
    refine Zz 3 ?_;exact met (zm (jof d H))
   have d:=N;simp at N
   try dsimp only[Con.kind,Con.parts,Con.name,Con.lo,Con.hi,Con.cap,Con.ad]at N
   refine Zz 11 ?_;exact met ⟨rfl,rfl,rfl,rfl,rfl,rfl,rfl,rfl,rfl,(o_ rfl (jot d)),trivial⟩
  refine Zz 2 ?_;cases a1
  ·simp at O
   try dsimp only[Con.kind,Con.parts,Con.name,Con.lo,Con.hi,Con.cap,Con.ad]at O
   refine Zz 10 ?_;cases xb
   ·try dsimp only[Con.kind,Con.parts,Con.name,Con.lo,Con.hi,Con.cap,Con.ad]at hxb
    refine Zz 5 ?_;refine C_ (cf_ rfl rfl) rfl fun V e=>Zz 1 ?_
    refine at_ 4 ((lo != 0)||(hi != 0)) (fun r=>[(0,.agg (Con.cells (Con.mk k nm lo hi ad cap ps)).toArray),(1,zp_ C 0),(2,.int .i64 0),(11,.bool false),(12,zp_ C 0),(13,.int .i64 k),(14,.pointer (some (rad (some ⟨1,0,none⟩) (k.toNat*4)))),(15,.agg #[.int .i64 E,.int .i64 L,.int .i64 K,.bool false]),(3,zp_ G 0),(39,.bool false),(40,zp_ G 3),(41,.bool false),(64,.bool r)]) ?_ fun X H=>?_
    ·cases V
     ·have d:=e
      replace e:=ee_ e;try dsimp only[Con.kind,Con.parts,Con.name,Con.lo,Con.hi,Con.cap,Con.ad]at e
      refine Zz 5 ?_;refine C_ (cf_ rfl rfl) rfl fun U q=>Zz 3 ?_
      exact met (zm (jof d q))
     have d:=e;replace e:=ed_ e;try dsimp only[Con.kind,Con.parts,Con.name,Con.lo,Con.hi,Con.cap,Con.ad]at e
     refine Zz 6 ?_;exact jF_
    refine Zz 2 ?_;cases X
    ·simp at H
     try dsimp only[Con.kind,Con.parts,Con.name,Con.lo,Con.hi,Con.cap,Con.ad]at H
     refine Zz 8 ?_;refine C_ (bU_ rfl rfl) rfl fun U q=>Zz 1 ?_
     refine at_ 4 ((E==0)||(bx_ nm)) (fun r=>[(0,.agg (Con.cells (Con.mk k nm lo hi ad cap ps)).toArray),(1,zp_ C 0),(2,.int .i64 0),(11,.bool false),(12,zp_ C 0),(13,.int .i64 k),(14,.pointer (some (rad (some ⟨1,0,none⟩) (k.toNat*4)))),(15,.agg #[.int .i64 E,.int .i64 L,.int .i64 K,.bool false]),(3,zp_ G 0),(39,.bool false),(40,zp_ G 3),(41,.bool false),(64,.bool false),(72,.bool r)]) ?_ fun W B=>?_
     ·cases U
      ·have d:=q
       replace q:=znb q;try dsimp only[Con.kind,Con.parts,Con.name,Con.lo,Con.hi,Con.cap,Con.ad]at q
       refine Zz 5 ?_;refine T_ (hk_ nm) rfl (.refl _) zt rfl fun R A=>Zz 3 ?_
       exact met (zm (jof d A))
      have d:=q;replace q:=zeb q;try dsimp only[Con.kind,Con.parts,Con.name,Con.lo,Con.hi,Con.cap,Con.ad]at q
      refine Zz 6 ?_;exact hw_
     refine Zz 1 ?_;refine at_ 9 ((((E==0)||(bx_ nm)))||(((E==2)&&(dk_ nm)))) (fun r=>[(0,.agg (Con.cells (Con.mk k nm lo hi ad cap ps)).toArray),(1,zp_ C 0),(2,.int .i64 0),(11,.bool false),(12,zp_ C 0),(13,.int .i64 k),(14,.pointer (some (rad (some ⟨1,0,none⟩) (k.toNat*4)))),(15,.agg #[.int .i64 E,.int .i64 L,.int .i64 K,.bool false]),(3,zp_ G 0),(39,.bool false),(40,zp_ G 3),(41,.bool false),(64,.bool false),(82,.bool r)]) ?_ fun R A=>?_
     ·cases W
      ·have d:=B
       simp at B
       try dsimp only[Con.kind,Con.parts,Con.name,Con.lo,Con.hi,Con.cap,Con.ad]at B
       refine Zz 5 ?_;refine C_ (bU_ rfl rfl) rfl fun T m=>Zz 2 ?_
       refine at_ 4 ((E==2)&&(dk_ nm)) (fun r=>[(0,.agg (Con.cells (Con.mk k nm lo hi ad cap ps)).toArray),(1,zp_ C 0),(2,.int .i64 0),(11,.bool false),(12,zp_ C 0),(13,.int .i64 k),(14,.pointer (some (rad (some ⟨1,0,none⟩) (k.toNat*4)))),(15,.agg #[.int .i64 E,.int .i64 L,.int .i64 K,.bool false]),(3,zp_ G 0),(39,.bool false),(40,zp_ G 3),(41,.bool false),(64,.bool false),(73,.bool false),(81,.bool r)]) ?_ fun Y F=>?_
       ·cases T
        ·have I:=m
         replace m:=znb m;try dsimp only[Con.kind,Con.parts,Con.name,Con.lo,Con.hi,Con.cap,Con.ad]at m
         exact mT_
        have I:=m;replace m:=zeb m;try dsimp only[Con.kind,Con.parts,Con.name,Con.lo,Con.hi,Con.cap,Con.ad]at m
        refine Zz 5 ?_;refine T_ (hN_ nm (Con.ok_name Z)) rfl (.refl _) zt rfl fun a3 P=>Zz 4 ?_
        exact met ⟨rfl,rfl,rfl,rfl,rfl,rfl,rfl,rfl,rfl,rfl,rfl,rfl,rfl,rfl,(o_ rfl (jat I P)),trivial⟩
       refine Zz 3 ?_;exact met (zm (jof d F))
      have d:=B;simp at B
      try dsimp only[Con.kind,Con.parts,Con.name,Con.lo,Con.hi,Con.cap,Con.ad]at B
      refine Zz 11 ?_;exact hw_
     refine Zz 2 ?_;cases R
     ·simp at A
      try dsimp only[Con.kind,Con.parts,Con.name,Con.lo,Con.hi,Con.cap,Con.ad]at A
      refine Zz 9 ?_;exact eM_
     simp at A
     try dsimp only[Con.kind,Con.parts,Con.name,Con.lo,Con.hi,Con.cap,Con.ad]at A
     refine Zz 7 ?_;exact eM_
    simp at H
    try dsimp only[Con.kind,Con.parts,Con.name,Con.lo,Con.hi,Con.cap,Con.ad]at H
    refine Zz 7 ?_;exact eM_
   try dsimp only[Con.kind,Con.parts,Con.name,Con.lo,Con.hi,Con.cap,Con.ad]at hxb
   refine Zz 5 ?_;refine C_ (cv_ rfl rfl) rfl fun V e=>Zz 1 ?_
   refine at_ 6 ((decide (lo<(-1099511627776)))||(decide (hi<lo))) (fun r=>[(0,.agg (Con.cells (Con.mk k nm lo hi ad cap ps)).toArray),(1,zp_ C 0),(2,.int .i64 0),(11,.bool false),(12,zp_ C 0),(13,.int .i64 k),(14,.pointer (some (rad (some ⟨1,0,none⟩) (k.toNat*4)))),(15,.agg #[.int .i64 E,.int .i64 L,.int .i64 K,.bool true]),(3,zp_ G 0),(39,.bool false),(40,zp_ G 3),(41,.bool true),(51,.bool r)]) ?_ fun X H=>?_
   ·cases V
    ·have d:=e
     replace e:=zdf e;try dsimp only[Con.kind,Con.parts,Con.name,Con.lo,Con.hi,Con.cap,Con.ad]at e
     refine Zz 9 ?_;refine C_ (dx_ rfl rfl) rfl fun U q=>Zz 3 ?_
     exact met (zm (jof d q))
    have d:=e;replace e:=zdt e;try dsimp only[Con.kind,Con.parts,Con.name,Con.lo,Con.hi,Con.cap,Con.ad]at e
    refine Zz 8 ?_;exact jF_
   refine Zz 1 ?_;refine at_ 4 ((((decide (lo<(-1099511627776)))||(decide (hi<lo))))||(decide (1099511627776<hi))) (fun r=>[(0,.agg (Con.cells (Con.mk k nm lo hi ad cap ps)).toArray),(1,zp_ C 0),(2,.int .i64 0),(11,.bool false),(12,zp_ C 0),(13,.int .i64 k),(14,.pointer (some (rad (some ⟨1,0,none⟩) (k.toNat*4)))),(15,.agg #[.int .i64 E,.int .i64 L,.int .i64 K,.bool true]),(3,zp_ G 0),(39,.bool false),(40,zp_ G 3),(41,.bool true),(56,.bool r)]) ?_ fun U q=>?_
   ·cases X
    ·have d:=H
     simp at H
     try dsimp only[Con.kind,Con.parts,Con.name,Con.lo,Con.hi,Con.cap,Con.ad]at H
     refine Zz 5 ?_;refine C_ (dx_ rfl rfl) rfl fun W B=>Zz 3 ?_
     exact met (zm (jof d B))
    have d:=H;simp at H
    try dsimp only[Con.kind,Con.parts,Con.name,Con.lo,Con.hi,Con.cap,Con.ad]at H
    refine Zz 6 ?_;exact jF_
   refine Zz 2 ?_;cases U
   ·simp at q
    try dsimp only[Con.kind,Con.parts,Con.name,Con.lo,Con.hi,Con.cap,Con.ad]at q
    refine Zz 8 ?_;refine C_ (bU_ rfl rfl) rfl fun W B=>Zz 1 ?_
    refine at_ 4 ((E==0)||(bx_ nm)) (fun r=>[(0,.agg (Con.cells (Con.mk k nm lo hi ad cap ps)).toArray),(1,zp_ C 0),(2,.int .i64 0),(11,.bool false),(12,zp_ C 0),(13,.int .i64 k),(14,.pointer (some (rad (some ⟨1,0,none⟩) (k.toNat*4)))),(15,.agg #[.int .i64 E,.int .i64 L,.int .i64 K,.bool true]),(3,zp_ G 0),(39,.bool false),(40,zp_ G 3),(41,.bool true),(56,.bool false),(72,.bool r)]) ?_ fun R A=>?_
    ·cases W
     ·have d:=B
      replace B:=znb B;try dsimp only[Con.kind,Con.parts,Con.name,Con.lo,Con.hi,Con.cap,Con.ad]at B
      refine Zz 5 ?_;refine T_ (hk_ nm) rfl (.refl _) zt rfl fun T m=>Zz 3 ?_
      exact met (zm (jof d m))
     have d:=B;replace B:=zeb B;try dsimp only[Con.kind,Con.parts,Con.name,Con.lo,Con.hi,Con.cap,Con.ad]at B
     refine Zz 6 ?_;exact hw_
    refine Zz 1 ?_;refine at_ 9 ((((E==0)||(bx_ nm)))||(((E==2)&&(dk_ nm)))) (fun r=>[(0,.agg (Con.cells (Con.mk k nm lo hi ad cap ps)).toArray),(1,zp_ C 0),(2,.int .i64 0),(11,.bool false),(12,zp_ C 0),(13,.int .i64 k),(14,.pointer (some (rad (some ⟨1,0,none⟩) (k.toNat*4)))),(15,.agg #[.int .i64 E,.int .i64 L,.int .i64 K,.bool true]),(3,zp_ G 0),(39,.bool false),(40,zp_ G 3),(41,.bool true),(56,.bool false),(82,.bool r)]) ?_ fun T m=>?_
    ·cases R
     ·have d:=A
      simp at A
      try dsimp only[Con.kind,Con.parts,Con.name,Con.lo,Con.hi,Con.cap,Con.ad]at A
      refine Zz 5 ?_;refine C_ (bU_ rfl rfl) rfl fun Y F=>Zz 2 ?_
      refine at_ 4 ((E==2)&&(dk_ nm)) (fun r=>[(0,.agg (Con.cells (Con.mk k nm lo hi ad cap ps)).toArray),(1,zp_ C 0),(2,.int .i64 0),(11,.bool false),(12,zp_ C 0),(13,.int .i64 k),(14,.pointer (some (rad (some ⟨1,0,none⟩) (k.toNat*4)))),(15,.agg #[.int .i64 E,.int .i64 L,.int .i64 K,.bool true]),(3,zp_ G 0),(39,.bool false),(40,zp_ G 3),(41,.bool true),(56,.bool false),(73,.bool false),(81,.bool r)]) ?_ fun a3 P=>?_
      ·cases Y
       ·have I:=F
        replace F:=znb F;try dsimp only[Con.kind,Con.parts,Con.name,Con.lo,Con.hi,Con.cap,Con.ad]at F
        exact mT_
       have I:=F;replace F:=zeb F;try dsimp only[Con.kind,Con.parts,Con.name,Con.lo,Con.hi,Con.cap,Con.ad]at F
       refine Zz 5 ?_;refine T_ (hN_ nm (Con.ok_name Z)) rfl (.refl _) zt rfl fun r_14 a0=>Zz 4 ?_
       exact met ⟨rfl,rfl,rfl,rfl,rfl,rfl,rfl,rfl,rfl,rfl,rfl,rfl,rfl,rfl,(o_ rfl (jat I a0)),trivial⟩
      refine Zz 3 ?_;exact met (zm (jof d P))
     have d:=A;simp at A
     try dsimp only[Con.kind,Con.parts,Con.name,Con.lo,Con.hi,Con.cap,Con.ad]at A
     refine Zz 11 ?_;exact hw_
    refine Zz 2 ?_;cases T
    ·simp at m
     try dsimp only[Con.kind,Con.parts,Con.name,Con.lo,Con.hi,Con.cap,Con.ad]at m
     refine Zz 9 ?_;exact eM_
    simp at m
    try dsimp only[Con.kind,Con.parts,Con.name,Con.lo,Con.hi,Con.cap,Con.ad]at m
    refine Zz 7 ?_;exact eM_
   simp at q
   try dsimp only[Con.kind,Con.parts,Con.name,Con.lo,Con.hi,Con.cap,Con.ad]at q
   refine Zz 7 ?_;exact eM_
  simp at O
  try dsimp only[Con.kind,Con.parts,Con.name,Con.lo,Con.hi,Con.cap,Con.ad]at O
  refine Zz 7 ?_;exact eM_
 simp at S
 try dsimp only[Con.kind,Con.parts,Con.name,Con.lo,Con.hi,Con.cap,Con.ad]at S
 refine Zz 7 ?_;exact af_ Tryz.results102 () (cl_ rfl (by unfold Con.fieldErr;simp only[Con.kind,Con.parts,Con.name,Con.lo,Con.hi];repeat (first|rfl|exact (if_pos zr_).symm|(rw[if_pos zZ_];first|done|rfl)|(rw[if_neg zZ_])))) (.refl _) zt
theorem xn_ {σ τ:Type} {l:Nat} {H:σ→Hp} {Q:τ→Hp} {stp:Con→σ→σ ⊕ τ} {E:List Fct} {good:Con→Prop} (B:∀ c p,good c→p∈c.parts→good p)
    (S:∀ s x,x.ok→good x→jw_ Tryz.prog l x.val (H s) (x.memF::E) (fun _:Unit=>.bool (stp x s).isLeft) (fun _=>oa_ H Q (stp x s)) (fun _=>[])) :
    ∀ (m:Nat) (c:Con),c.sz≤m→c.ok→good c→∀ (s:σ) r,Con.fold stp c s=r →
    Tri Tryz.prog 149 #[c.val,.func (.yield l) #[] #[]] (H s) (c.memF::E) (fun _:Unit=>.bool r.isLeft) (fun _=>oa_ H Q r) (fun _=>[]):=by
  intro m
  induction m with
  | zero=>intro c h;have:=c.sz_pos;omega
  | succ m ih =>
    intro c hm e O s r R;obtain⟨k,nm,lo,hi,ad,cap,ps⟩:=c;have I:=Con.ok_len e;simp only[Con.parts,Con.cap]at I;have K:∀ p∈ps,good p:=fun p G=>B _ p O G
    refine j_ Tryz.func149 rfl rfl Tryz.ntmps149 rfl fun T=>?_;refine Zz 2 ?_;refine aa_ rfl rfl fun y=>Zz 5 ?_
    rcases hfc:stp (.mk k nm lo hi ad cap ps) s with C|L
    · skip
      refine kt_ (ι:=Unit) (fun _=>[(1,.func (.yield l) #[] #[]),(2,zp_ y 0),(10,.bool false)]) (fun _=>(y,.cells (Con.mk k nm lo hi ad cap ps).cells.toArray 40 (0,0))::H C) (fun _=>[(Con.mk k nm lo hi ad cap ps).memF]++E) ?_ fun _=>?_
      · skip
        refine aV_ ?_;refine X_ dq_ (O_ rfl) rfl rfl ?_;refine X_ dq_ (du_ (c:=.mk k nm lo hi ad cap ps) 0 aU_ L_ rfl rfl) rfl rfl ?_;refine hK_ (S s _ e O) rfl rfl (@List.perm_append_comm _ [_] _) (fun v _ h=>h) rfl fun _=>?_;rw[hfc];refine X_ dq_ (aJ_ rfl) rfl rfl ?_;refine bF_ ?_;refine dI_ rfl ?_;exact fF_ () zl (F:=[]) zaj_ zh
      · skip
        refine Zz 14 ?_;refine bC_ [(1,.func (.yield l) #[] #[]),(12,.slice ad ps.length cap),(13,.int .i64 (ps.length:Int)),(14,.int .i64 ((0:Nat):Int))] zl ?_;refine cc_ (ι:={q:Nat×σ // q.1≤ps.length∧Con.fold.folds stp (ps.take q.1) C=.inl q.2}) (fun i=>[(1,.func (.yield l) #[] #[]),(12,.slice ad ps.length cap),(13,.int .i64 (ps.length:Int)),(14,.int .i64 (i.1.1:Int))]) (fun i=>_::H i.1.2) (fun _=>_) (fun i=>ps.length - i.1.1) ⟨(0,C),by simp[Con.fold.folds]⟩ ?_;rintro ⟨⟨i,A⟩,hk⟩;refine bC_ [(1,.func (.yield l) #[] #[]),(12,.slice ad ps.length cap),(13,.int .i64 (ps.length:Int)),(14,.int .i64 (i:Int))] zl ?_;refine Zj 2 (fun M=>?_) fun M=>?_
        · skip
          refine Zz 12 ?_;obtain rfl:r=.inl A:=by rw[← R,Con.fold_eq,hfc];exact Con.folds_yes (show ps.length≤i by omega) hk.2
          exact af_ Tryz.results149 () rfl (@List.perm_append_comm _ [_] _) zt
        · skip
          have J:i<ps.length:=by omega
          obtain⟨p,G⟩:∃ p,ps[i]? = some p:=⟨_,List.getElem?_eq_getElem J⟩;have d:p∈ps:=List.mem_of_getElem? G;refine Zz 10 ?_;refine e_ (U_ ai_ L_ rfl rfl (fun v _ h=>Con.row_addr (c:=.mk k nm lo hi ad cap ps) h.1 G) zr_ zr_) rfl (e_ (au_ (us:=p.cells) aU_ L_ rfl (fun v _ h=>((Con.mem_iff (.mk k nm lo hi ad cap ps) v).1 h.1).1) p.cells_len (Con.part_cells (c:=.mk k nm lo hi ad cap ps) (i:=i) G)) rfl (D_ ch_ rfl fun U=>fC_ 0 L_ rfl rfl rfl rfl (Zz 3 ?_)));rcases hfp:Con.fold stp p A with N|P
          · skip
            refine ad_ (e_ (du_ 0 aU_ L_ rfl rfl) rfl (Zz 1 ?_));refine i_ (ih p zaY_ (Con.ok_part (c:=.mk k nm lo hi ad cap ps) e d) (K p d) A _ hfp) rfl (@List.perm_append_comm _ [_,_] _) (fun v _ h=>⟨Con.mem_part (c:=.mk k nm lo hi ad cap ps) h.1 d,h.2⟩) rfl fun _=>?_;refine u_ (@List.perm_append_comm _ _ [_,_]) (e_ (aJ_ rfl) rfl (Zz 10 ?_));exact y_ ⟨(i+1,N),J,Con.folds_step G hk.2 hfp⟩ zH_ zl (F:=[_]) (@List.perm_append_comm _ [_] _) zh
          · skip
            refine ad_ (e_ (du_ 0 aU_ L_ rfl rfl) rfl (Zz 1 ?_));refine i_ (ih p zaY_ (Con.ok_part (c:=.mk k nm lo hi ad cap ps) e d) (K p d) A _ hfp) rfl (@List.perm_append_comm _ [_,_] _) (fun v _ h=>⟨Con.mem_part (c:=.mk k nm lo hi ad cap ps) h.1 d,h.2⟩) rfl fun _=>?_;refine u_ (@List.perm_append_comm _ _ [_,_]) (e_ (aJ_ rfl) rfl (Zz 9 ?_));obtain rfl:r=.inr P:=by rw[← R,Con.fold_eq,hfc];exact Con.folds_no G hk.2 hfp
            exact af_ Tryz.results149 () rfl (@List.perm_append_comm _ [_,_] _) zt
    · skip
      refine kt_ (ι:=Unit) (fun _=>[(1,.func (.yield l) #[] #[]),(2,zp_ y 0),(10,.bool true)]) (fun _=>(y,.cells (Con.mk k nm lo hi ad cap ps).cells.toArray 40 (0,0))::Q L) (fun _=>[(Con.mk k nm lo hi ad cap ps).memF]++E) ?_ fun _=>?_
      · skip
        refine aV_ ?_;refine X_ dq_ (O_ rfl) rfl rfl ?_;refine X_ dq_ (du_ (c:=.mk k nm lo hi ad cap ps) 0 aU_ L_ rfl rfl) rfl rfl ?_;refine hK_ (S s _ e O) rfl rfl (@List.perm_append_comm _ [_] _) (fun v _ h=>h) rfl fun _=>?_;rw[hfc];refine X_ dq_ (aJ_ rfl) rfl rfl ?_;refine bF_ ?_;refine dI_ rfl ?_;exact fF_ () zl (F:=[]) zaj_ zh
      · skip
        refine Zz 8 ?_;obtain rfl:r=.inr L:=by rw[← R,Con.fold_eq,hfc]
        exact af_ Tryz.results149 () rfl (@List.perm_append_comm _ [_] _) zt
theorem vg_ (c:Con) :
    Tri Tryz.prog 101 #[c.val] [] [] (fun b:Nat=>.func (.func 148) #[] #[zp_ b 0]) (fun b=>[(b,.cells c.cells.toArray 40 (0,0))]) (fun _=>[]):=by
  refine j_ Tryz.func101 rfl rfl Tryz.ntmps101 rfl fun e=>?_;refine Zz 2 ?_;refine aa_ rfl rfl fun d=>Zz 5 ?_
  refine e_ (bT_ rfl rfl) rfl (Zz 4 ?_);exact af_ Tryz.results101 d rfl (F:=[]) (.refl _) zt
theorem tb_ {σ τ:Type} {l b:Nat} {e:σ→Hp} {m:τ→Hp} {stp:Con→σ→σ ⊕ τ} {E:List Fct} {good:Con→Prop} (d:∀ c p,good c→p∈c.parts→good p)
    (q:∀ s x,x.ok→good x→jw_ Tryz.prog l x.val (e s) (x.memF::E) (fun _:Unit=>.bool (stp x s).isLeft) (fun _=>oa_ e m (stp x s)) (fun _=>[]))
    (c:Con) (k:c.ok) (y:good c) (s:σ) :
    Tri Tryz.prog 148 #[.func (.yield l) #[] #[],zp_ b 0] ((b,.cells c.cells.toArray 40 (0,0))::e s) (c.memF::E) (fun _:Unit=>.tuple #[]) (fun _=>(b,.cells c.cells.toArray 40 (0,0))::oa_ e m (Con.fold stp c s)) (fun _=>[]):=by
  refine j_ Tryz.func148 rfl rfl Tryz.ntmps148 rfl fun A=>?_;refine ad_ (e_ (du_ (c:=c) 0 aU_ L_ rfl rfl) rfl (Zz 1 ?_));refine i_ (xn_ d q _ c (Nat.le_refl _) k y s _ rfl) rfl (@List.perm_append_comm _ [_] _) (fun v _ h=>h) rfl fun _=>Zz 2 ?_
  exact cB_ Tryz.results148 () rfl (F:=[]) zaj_ zt
theorem mS_ {G:Prop} (h:G:=by
 exact zg_ (G:=[_,_,_]) () (fun a v q y=>by rw[← O];exact qN_ 1 Tryz.results63 Tryz.isAgg29 rfl rfl a v q y) (gO_ (i:=3) rfl) ⟨_,.refl _⟩ rfl):G:=h
theorem fn_ (c:Con) (I:c.ok):Tri Tryz.prog 63 #[c.val] [] [c.memF,bV_] (fun _:Unit=>.int .i64 c.check) (fun _=>[]) (fun _=>[]):=by
 obtain⟨k,nm,lo,hi,ad,cap,ps⟩:=c;refine hC_ Tryz.func63 rfl rfl Tryz.ntmps63 rfl fun J=>?_;refine Zz 2 ?_;refine aa_ rfl rfl fun U=>D_ Tryz.zeroValue29 rfl fun e=>Zz 4 ?_
 refine D_ kW_ rfl fun R=>x_ 0 av_ rfl rfl rfl rfl rfl rfl (Zz 6 ?_)
 refine nG_ 0 (fits_c _ (.mk k nm lo hi ad cap ps) (Nat.le_refl _) I 0 0 R zr_ zr_ _ rfl) rfl rfl zf rfl fun N B=>e_ (aJ_ rfl) rfl (Zz 2 ?_)
 cases N
 ·try dsimp only[Con.kind,Con.parts,Con.name,Con.lo,Con.hi,Con.cap,Con.ad]at B
  refine Zz 3 ?_;refine x_ 1 Tryz.sizeOf29 rfl rfl rfl rfl rfl rfl (Zz 3 ?_);exact retM () (fun a v q y _=>by rw[qN_ 1 Tryz.results63 Tryz.isAgg29 rfl rfl a v q y];simp[Con.check, *]) (.refl _) zt
 try dsimp only[Con.kind,Con.parts,Con.name,Con.lo,Con.hi,Con.cap,Con.ad]at B
 refine Zz 7 ?_;refine i_ (vg_ (.mk k nm lo hi ad cap ps)) rfl (.refl _) zt rfl fun b=>Zz 3 ?_
 refine bC_ [(2,zp_ e 0),(10,.func (.func 148) #[] #[zp_ b 0])] zl ?_;refine dW_ (H':=[_,_]) (F:=[_,_]) (.cons _ (.swap _ _ _)) zh ?_;refine tX_ (α:={c:Con // c.ok}) (xv:=fun x=>x.1.val) (good:=fun _=>True) (stp:=fun x=>Con.chk x.1) (Γx:=fun x=>[x.1.memF,bV_]) (Γi:=[Con.memF (.mk k nm lo hi ad cap ps),bV_]) (Hj:=fun _:Unit=>[(e,.cells #[.int .i64 0] 29 (0,0))]) (Hx:=fun t:Int=>[(e,.cells #[.int .i64 t] 29 (0,0))]) (Hc:=[(b,.cells (Con.mk k nm lo hi ad cap ps).cells.toArray 40 (0,0))]) (caps:=[zp_ b 0]) () (Con.fold Con.chk (.mk k nm lo hi ad cap ps) ()) rfl (.refl _) (fun v _ h=>h) ?_ ?_ ?_ ?_
 ·rintro l D X W P M T H C s ⟨x,L⟩ -
  refine mU_ (ι:=Nat) (Hj:=fun _:Unit=>[(e,.cells #[.int .i64 0] 29 (0,0))]) (Hx:=fun t:Int=>[(e,.cells #[.int .i64 t] 29 (0,0))]) (s:=s) (res:=Con.chk x s) (Γ:=[x.memF,bV_]) (fun m=>[(2,zp_ e 0),(4,zp_ m 0)]) (fun m=>[(m,.cells x.cells.toArray 40 (0,0)),(e,.cells #[.int .i64 0] 29 (0,0))]) W P M T rfl ?_ ?_
  ·intro n J K S
   rw[H];refine aV_ ?_;refine nH_ (N_ _) ch_ rfl fun m=>?_;refine rb_ (N_ _) 0 L_ rfl rfl rfl rfl ?_;refine bF_ ?_;refine dI_ rfl ?_;exact fF_ m zl (F:=[]) zaq_ zh
  intro n J K S m;rw[C];refine eN_ ?_;refine do_ ?_;refine aV_ ?_;refine X_ (N_ _) (du_ 0 aU_ L_ rfl rfl) rfl rfl ?_;refine ut_ (oB_ x L) rfl (.refl _) zf rfl fun _=>?_;refine X_ (N_ _) (an_ rfl) rfl rfl ?_;refine bF_ ?_;refine cs_ rfl ?_;refine do_ ?_;refine aV_ ?_;refine X_ (N_ _) (O_ rfl) rfl rfl ?_;refine ur_ (N_ _) (cf_ rfl rfl) rfl rfl fun Q d=>?_;refine bF_ ?_;refine cs_ rfl ?_;cases Q
  ·replace d:=ee_ d
   try dsimp only[Con.kind,Con.parts,Con.name,Con.lo,Con.hi,Con.cap,Con.ad]at d
   refine mh_ rfl ?_;refine oO_ ?_;refine dI_ rfl ?_;exact gm_ () (by simp[Con.chk, *]) (G:=[_]) (@List.perm_append_comm _ [_] _)
  replace d:=ed_ d;try dsimp only[Con.kind,Con.parts,Con.name,Con.lo,Con.hi,Con.cap,Con.ad]at d
  refine fR_ rfl ?_;refine do_ ?_;refine aV_ ?_;refine X_ (N_ _) (O_ rfl) rfl rfl ?_;refine gy_ (N_ _) 1 Tryz.sizeOf29 rfl rfl rfl rfl rfl rfl ?_;refine bF_ ?_;refine cs_ rfl ?_;refine nr_ ?_;exact ua_ x.fieldErr (by simp[Con.chk, *]) (G:=[_]) (@List.perm_append_comm _ [_] _)
 ·intro l Z Y V
  exact tb_ (E:=[bV_]) (good:=fun _=>True) (fun _ _ _ _=>trivial) (fun s x L _=>V s ⟨x,L⟩ trivial) _ I trivial ()
 ·intro s A D l r
  rw[Con.fold_chk _ _ (Nat.le_refl _)]at A;refine cs_ rfl ?_;refine do_ ?_;refine aV_ ?_;refine gy_ dq_ 1 Tryz.sizeOf29 rfl rfl rfl rfl rfl rfl ?_;refine bF_ ?_;refine cs_ rfl ?_;refine nr_ ?_;have O:(0:Int)=(Con.mk k nm lo hi ad cap ps).check:=by unfold Con.check;rw[if_pos zB_];split at A;(rename_i h;exact h.symm);cases A
  exact mS_
 intro t A D l r;rw[Con.fold_chk _ _ (Nat.le_refl _)]at A;have O:t=(Con.mk k nm lo hi ad cap ps).check:=by unfold Con.check;rw[if_pos zB_];split at A;cases A;injection A with A;exact A.symm
 exact mS_
theorem jE_ {G:Prop} (h:G:=by
 refine Zz 6 ?_;exact met ⟨rfl,rfl,rfl,(o_ rfl (jaf d)),trivial⟩):G:=h
theorem pg_ (c:Con):Fn0 Tryz.prog 98 #[c.val] (.bool c.empty):=by
 obtain⟨k,nm,lo,hi,ad,cap,ps⟩:=c;refine j_ Tryz.func98 rfl rfl Tryz.ntmps98 rfl fun G=>?_;refine Zz 2 ?_;refine aa_ rfl rfl fun x=>Zz 7 ?_
 refine C_ (bU_ rfl rfl) rfl fun E e=>Zz 1 ?_
 refine at_ 4 ((k==0)&&(nm==[])) (fun r=>[(0,.agg (Con.cells (Con.mk k nm lo hi ad cap ps)).toArray),(1,zp_ x 0),(2,.bool false),(10,.bool r)]) ?_ fun F q=>?_
 ·cases E
  ·have d:=e
   replace e:=znb e;try dsimp only[Con.kind,Con.parts,Con.name,Con.lo,Con.hi,Con.cap,Con.ad]at e
   exact jE_
  have d:=e;replace e:=zeb e;try dsimp only[Con.kind,Con.parts,Con.name,Con.lo,Con.hi,Con.cap,Con.ad]at e
  refine Zz 5 ?_;refine C_ (dn_ rfl rfl) rfl fun B m=>Zz 3 ?_
  exact met ⟨rfl,rfl,rfl,(o_ rfl (jat d m)),trivial⟩
 refine Zz 1 ?_;refine at_ 4 ((((k==0)&&(nm==[])))&&(lo==0)) (fun r=>[(0,.agg (Con.cells (Con.mk k nm lo hi ad cap ps)).toArray),(1,zp_ x 0),(2,.bool false),(15,.bool r)]) ?_ fun B m=>?_
 ·cases F
  ·have d:=q
   simp at q
   try dsimp only[Con.kind,Con.parts,Con.name,Con.lo,Con.hi,Con.cap,Con.ad]at q
   exact jE_
  have d:=q;simp at q
  try dsimp only[Con.kind,Con.parts,Con.name,Con.lo,Con.hi,Con.cap,Con.ad]at q
  refine Zz 5 ?_;refine C_ (bU_ rfl rfl) rfl fun y h=>Zz 3 ?_
  exact met ⟨rfl,rfl,rfl,(o_ rfl (jat d h)),trivial⟩
 refine Zz 1 ?_;refine at_ 4 ((((((k==0)&&(nm==[])))&&(lo==0)))&&(hi==0)) (fun r=>[(0,.agg (Con.cells (Con.mk k nm lo hi ad cap ps)).toArray),(1,zp_ x 0),(2,.bool false),(20,.bool r)]) ?_ fun y h=>?_
 ·cases B
  ·have d:=m
   simp at m
   try dsimp only[Con.kind,Con.parts,Con.name,Con.lo,Con.hi,Con.cap,Con.ad]at m
   exact jE_
  have d:=m;simp at m
  try dsimp only[Con.kind,Con.parts,Con.name,Con.lo,Con.hi,Con.cap,Con.ad]at m
  refine Zz 5 ?_;refine C_ (bU_ rfl rfl) rfl fun C v=>Zz 3 ?_
  exact met ⟨rfl,rfl,rfl,(o_ rfl (jat d v)),trivial⟩
 refine Zz 1 ?_;refine at_ 5 ((((((((k==0)&&(nm==[])))&&(lo==0)))&&(hi==0)))&&((ps.length:Int)==0)) (fun r=>[(0,.agg (Con.cells (Con.mk k nm lo hi ad cap ps)).toArray),(2,.bool false),(26,.bool r)]) ?_ fun C v=>?_
 ·cases y
  ·have d:=h
   simp at h
   try dsimp only[Con.kind,Con.parts,Con.name,Con.lo,Con.hi,Con.cap,Con.ad]at h
   refine Zz 7 ?_;exact met ⟨rfl,rfl,(o_ rfl (jaf d)),trivial⟩
  have d:=h;simp at h
  try dsimp only[Con.kind,Con.parts,Con.name,Con.lo,Con.hi,Con.cap,Con.ad]at h
  refine Zz 7 ?_;refine C_ (bU_ rfl rfl) rfl fun H A=>Zz 3 ?_
  exact met ⟨rfl,rfl,(o_ rfl (jat d A)),trivial⟩
 refine Zz 4 ?_;exact af_ Tryz.results98 () (o_ rfl v.symm) (.refl _) zt
theorem pT_ {g:FuncId} {pred:Con→Bool} (c:Con) (C:c.ok) (E:∀ p∈c.parts,Tri Tryz.prog g #[p.val] [] [p.memF] (fun _:Unit=>.bool (pred p)) (fun _=>[]) (fun _=>[])) :
    Tri Tryz.prog 150 #[.slice c.ad c.parts.length c.cap,.func (.func g) #[] #[]] [] [c.memF] (fun r:{r:Int // decide (0≤r)=c.parts.any pred}=>.int .i64 r.1) (fun _=>[]) (fun _=>[]):=by
  obtain⟨k,nm,lo,hi,ad,cap,ps⟩:=c;have m:=Con.ok_len C;simp only[Con.parts,Con.cap]at m;refine j_ Tryz.func150 rfl rfl Tryz.ntmps150 rfl fun F=>?_;refine Zz 14 ?_;refine bC_ [(0,.slice ad ps.length cap),(1,.func (.func g) #[] #[]),(7,.int .i64 (ps.length:Int)),(8,.int .i64 ((0:Nat):Int))] zl ?_;refine cc_ (ι:={q:Nat // q≤ps.length∧(ps.take q).any pred=false}) (fun i=>[(0,.slice ad ps.length cap),(1,.func (.func g) #[] #[]),(7,.int .i64 (ps.length:Int)),(8,.int .i64 (i.1:Int))]) (fun _=>_) (fun _=>_) (fun i=>ps.length - i.1) ⟨0,by simp⟩ ?_;rintro ⟨i,hk⟩;refine bC_ [(0,.slice ad ps.length cap),(1,.func (.func g) #[] #[]),(7,.int .i64 (ps.length:Int)),(8,.int .i64 (i:Int))] zl ?_;refine Zj 2 (fun y=>?_) fun y=>?_
  · skip
    refine Zz 12 ?_;exact af_ Tryz.results150 ⟨-1,by have:=hk.2;rw[List.take_of_length_le zr_]at this;show _=ps.any pred;rw[this];rfl⟩ rfl (.refl _) zt
  · skip
    have x:i<ps.length:=by omega
    obtain⟨p,A⟩:∃ p,ps[i]? = some p:=⟨_,List.getElem?_eq_getElem x⟩;have e:p∈ps:=List.mem_of_getElem? A;refine Zz 19 ?_;refine e_ (U_ ai_ L_ rfl rfl (fun v _ h=>aE_ (n:=5) Con.cells_len zx_ (((Con.mem_iff (.mk k nm lo hi ad cap ps) v).1 h.1).1) A) zr_ zz_) rfl ?_;refine e_ (au_ (ad:=ad) (us:=p.cells) aU_ L_ rfl (fun v _ h=>((Con.mem_iff (.mk k nm lo hi ad cap ps) v).1 h.1).1) (Con.cells_len _) (p_ Con.cells_len A)) rfl (bS_ (E p e) rfl rfl (.refl _) (fun v _ h=>by exact⟨Con.mem_part (c:=(.mk k nm lo hi ad cap ps)) h.1 e,trivial⟩) rfl fun B d=>Zz 2 ?_);cases B
    · skip
      try dsimp only[Con.kind,Con.parts,Con.name,Con.lo,Con.hi,Con.cap,Con.ad]at d
      refine Zz 8 ?_;exact y_ ⟨i+1,x,by rw[Con.take_snoc A,List.any_append,hk.2];simp[*]⟩ zH_ zl (.refl _) zh
    · skip
      try dsimp only[Con.kind,Con.parts,Con.name,Con.lo,Con.hi,Con.cap,Con.ad]at d
      refine Zz 8 ?_;exact af_ Tryz.results150 ⟨(i:Int),by show _=ps.any pred;rw[show ps.any pred=true from List.any_eq_true.2 ⟨p,e,by assumption⟩];exact decide_eq_true zr_⟩ rfl (.refl _) zt
theorem mD_ {g:FuncId} {pred:Con→Bool} (c:Con) (d:c.ok) (m:∀ p∈c.parts,Tri Tryz.prog g #[p.val] [] [p.memF] (fun _:Unit=>.bool (pred p)) (fun _=>[]) (fun _=>[])) :
    Tri Tryz.prog 103 #[.slice c.ad c.parts.length c.cap,.func (.func g) #[] #[]] [] [c.memF] (fun _:Unit=>.bool (c.parts.any pred)) (fun _=>[]) (fun _=>[]):=by
  obtain⟨k,nm,lo,hi,ad,cap,ps⟩:=c;refine j_ Tryz.func103 rfl rfl Tryz.ntmps103 rfl fun q=>?_;refine Zz 9 ?_;refine i_ (pT_ (.mk k nm lo hi ad cap ps) d m) rfl (.refl _) (fun v _ h=>h) rfl fun x=>C_ (fa_ rfl rfl) rfl fun y e=>Zz 4 ?_
  exact af_ Tryz.results103 () (o_ rfl (e.symm.trans x.2)) (.refl _) zt
theorem dZ_:∀ (m:Nat) (c:Con),c.sz≤m→c.ok→Tri Tryz.prog 64 #[c.val] [] [c.memF] (fun _:Unit=>.bool c.bare) (fun _=>[]) (fun _=>[]):=by
 intro m
 induction m with
 | zero=>intro c h;have:=c.sz_pos;omega
 | succ m ih =>
   intro c hm e;obtain⟨k,nm,lo,hi,ad,cap,ps⟩:=c;refine j_ Tryz.func64 rfl rfl Tryz.ntmps64 rfl fun B=>?_;refine Zz 2 ?_;refine aa_ rfl rfl fun C=>Zj 13 (fun d=>?_) fun d=>?_
   · skip
     refine Zj 6 (fun q=>?_) fun q=>?_
     · skip
       refine Zz 12 ?_;exact af_ Tryz.results64 () (o_ rfl zai_) (.refl _) zt
     · skip
       refine Zz 8 ?_;refine T_ (mD_ (pred:=Con.bare) (.mk k nm lo hi ad cap ps) e (fun p x=>ih p (by have:=Con.sz_part (c:=(.mk k nm lo hi ad cap ps)) x;omega) (Con.ok_part (c:=(.mk k nm lo hi ad cap ps)) e x))) rfl (.refl _) (fun v _ h=>h) rfl fun A y=>?_;refine Zz 4 ?_;exact af_ Tryz.results64 () (o_ rfl zai_) (.refl _) zt
   · skip
     refine Zz 10 ?_;exact af_ Tryz.results64 () (o_ rfl zai_) (.refl _) zt
theorem hv_ {G:Prop} (h:G:=by
 refine Zz 7 ?_;exact met ⟨rfl,rfl,rfl,rfl,rfl,rfl,rfl,rfl,rfl,rfl,(o_ rfl (jot rfl)),trivial⟩):G:=h
theorem fq_ {G:Prop} (h:G:=by
 exact met ⟨rfl,rfl,rfl,rfl,rfl,rfl,rfl,rfl,rfl,(o_ rfl (jaf d)),trivial⟩):G:=h
theorem sy_ (x:Ax):Tri Tryz.prog 61 #[x.val] [] [bV_] (fun _:Unit=>.bool x.shaped) (fun _=>[]) (fun _=>[]):=by
 obtain⟨k,Y,⟨kl,Q,K,hl,al,cl,pl⟩,⟨H,N,J,O,G,L,P⟩,ad,cap,V,ro,a,b⟩:=x;refine j_ Tryz.func61 rfl rfl Tryz.ntmps61 rfl fun v_1=>?_;refine Zz 2 ?_;refine aa_ rfl rfl fun e=>Zz 8 ?_
 refine C_ (cv_ rfl rfl) rfl fun a7 A=>Zz 1 ?_
 refine at_ 4 ((decide (k<1))||(decide (9<k))) (fun r=>[(0,.agg (Ax.cells (Ax.mk k Y (Con.mk kl Q K hl al cl pl) (Con.mk H N J O G L P) ad cap V ro a b)).toArray),(1,zp_ e 0),(2,.bool false),(11,.bool r)]) ?_ fun a9 U=>?_
 ·cases a7
  ·have d:=A
   replace A:=zdf A;try dsimp only[Con.kind,Con.parts,Con.name,Con.lo,Con.hi,Con.cap,Con.ad]at A
   refine Zz 5 ?_;refine C_ (dx_ rfl rfl) rfl fun a5 E=>Zz 3 ?_
   exact met (zm (jof d E))
  have d:=A;replace A:=zdt A;try dsimp only[Con.kind,Con.parts,Con.name,Con.lo,Con.hi,Con.cap,Con.ad]at A
  refine Zz 6 ?_;exact met ⟨rfl,rfl,rfl,(o_ rfl (jot d)),trivial⟩
 refine Zz 2 ?_;cases a9
 ·simp at U
  try dsimp only[Con.kind,Con.parts,Con.name,Con.lo,Con.hi,Con.cap,Con.ad]at U
  obtain⟨u,hx⟩:∃ u,tQ_[k.toNat]? = some u:=⟨_,List.getElem?_eq_getElem (show k.toNat<10 by omega)⟩;have a8:us k=u:=by simp[us,hx]
  obtain⟨M,I,R,S,ub,W,X⟩:=u;refine Zz 7 ?_;refine e_ (em_ Tryz.runUnderlying96 jZ_ rfl rfl zbi_ (by show k<(10:Int);omega)) rfl ?_;refine e_ (au_ (ad:=some ⟨0,0,none⟩) (us:=Use.cells ⟨M,I,R,S,ub,W,X⟩) Tryz.isAgg95 jZ_ rfl (fun v _ h=>h.1.2.1) (Use.cells_len _) (p_ Use.cells_len hx)) rfl (D_ Tryz.zeroValue95 rfl fun F=>x_ 0 jZ_ rfl rfl rfl rfl rfl rfl (Zz 7 ?_));refine at_ 4 ((M)||(Con.empty (.mk kl Q K hl al cl pl))) (fun r=>[(0,.agg (Ax.cells (Ax.mk k Y (Con.mk kl Q K hl al cl pl) (Con.mk H N J O G L P) ad cap V ro a b)).toArray),(1,zp_ e 0),(2,.bool false),(11,.bool false),(12,zp_ e 0),(13,.int .i64 k),(14,.pointer (some (rad (some ⟨0,0,none⟩) (k.toNat*7)))),(15,.agg #[.bool M,.bool I,.bool R,.bool S,.bool ub,.int .i64 W,.int .i64 X]),(3,zp_ F 0),(22,.bool r)]) ?_ fun a5 E=>?_
  ·cases M
   ·try dsimp only[Con.kind,Con.parts,Con.name,Con.lo,Con.hi,Con.cap,Con.ad]at hul
    refine Zz 5 ?_;refine T_ (pg_ (.mk kl Q K hl al cl pl)) rfl (.refl _) zt rfl fun a6 B=>Zz 3 ?_
    exact met (zm (jof rfl B))
   try dsimp only[Con.kind,Con.parts,Con.name,Con.lo,Con.hi,Con.cap,Con.ad]at hul
   refine Zz 6 ?_;exact met ⟨rfl,rfl,rfl,rfl,rfl,rfl,rfl,rfl,rfl,(o_ rfl (jot rfl)),trivial⟩
  refine Zz 1 ?_;refine at_ 8 ((((M)||(Con.empty (.mk kl Q K hl al cl pl))))&&(((I)||(Con.empty (.mk H N J O G L P))))) (fun r=>[(0,.agg (Ax.cells (Ax.mk k Y (Con.mk kl Q K hl al cl pl) (Con.mk H N J O G L P) ad cap V ro a b)).toArray),(1,zp_ e 0),(2,.bool false),(11,.bool false),(12,zp_ e 0),(13,.int .i64 k),(14,.pointer (some (rad (some ⟨0,0,none⟩) (k.toNat*7)))),(15,.agg #[.bool M,.bool I,.bool R,.bool S,.bool ub,.int .i64 W,.int .i64 X]),(3,zp_ F 0),(31,.bool r)]) ?_ fun a6 B=>?_
  ·cases a5
   ·have d:=E
    simp at E
    try dsimp only[Con.kind,Con.parts,Con.name,Con.lo,Con.hi,Con.cap,Con.ad]at E
    refine Zz 10 ?_;exact fq_
   have d:=E;simp at E
   try dsimp only[Con.kind,Con.parts,Con.name,Con.lo,Con.hi,Con.cap,Con.ad]at E
   refine Zz 6 ?_;refine at_ 4 ((I)||(Con.empty (.mk H N J O G L P))) (fun r=>[(0,.agg (Ax.cells (Ax.mk k Y (Con.mk kl Q K hl al cl pl) (Con.mk H N J O G L P) ad cap V ro a b)).toArray),(1,zp_ e 0),(2,.bool false),(11,.bool false),(12,zp_ e 0),(13,.int .i64 k),(14,.pointer (some (rad (some ⟨0,0,none⟩) (k.toNat*7)))),(15,.agg #[.bool M,.bool I,.bool R,.bool S,.bool ub,.int .i64 W,.int .i64 X]),(3,zp_ F 0),(23,.bool true),(30,.bool r)]) ?_ fun a3 C=>?_
   ·cases I
    ·try dsimp only[Con.kind,Con.parts,Con.name,Con.lo,Con.hi,Con.cap,Con.ad]at hur
     refine Zz 5 ?_;refine T_ (pg_ (.mk H N J O G L P)) rfl (.refl _) zt rfl fun a0 q=>Zz 4 ?_
     exact met (zm (jof rfl q))
    try dsimp only[Con.kind,Con.parts,Con.name,Con.lo,Con.hi,Con.cap,Con.ad]at hur
    exact hv_
   refine Zz 3 ?_;exact met ⟨rfl,rfl,rfl,rfl,rfl,rfl,rfl,rfl,rfl,(o_ rfl (jat d C)),trivial⟩
  refine Zz 1 ?_;refine at_ 8 ((((((M)||(Con.empty (.mk kl Q K hl al cl pl))))&&(((I)||(Con.empty (.mk H N J O G L P))))))&&(((R)||(ro==[])))) (fun r=>[(0,.agg (Ax.cells (Ax.mk k Y (Con.mk kl Q K hl al cl pl) (Con.mk H N J O G L P) ad cap V ro a b)).toArray),(1,zp_ e 0),(2,.bool false),(11,.bool false),(12,zp_ e 0),(13,.int .i64 k),(14,.pointer (some (rad (some ⟨0,0,none⟩) (k.toNat*7)))),(15,.agg #[.bool M,.bool I,.bool R,.bool S,.bool ub,.int .i64 W,.int .i64 X]),(3,zp_ F 0),(40,.bool r)]) ?_ fun a3 C=>?_
  ·cases a6
   ·have d:=B
    simp at B
    try dsimp only[Con.kind,Con.parts,Con.name,Con.lo,Con.hi,Con.cap,Con.ad]at B
    refine Zz 10 ?_;exact fq_
   have d:=B;simp at B
   try dsimp only[Con.kind,Con.parts,Con.name,Con.lo,Con.hi,Con.cap,Con.ad]at B
   refine Zz 6 ?_;refine at_ 4 ((R)||(ro==[])) (fun r=>[(0,.agg (Ax.cells (Ax.mk k Y (Con.mk kl Q K hl al cl pl) (Con.mk H N J O G L P) ad cap V ro a b)).toArray),(1,zp_ e 0),(2,.bool false),(11,.bool false),(12,zp_ e 0),(13,.int .i64 k),(14,.pointer (some (rad (some ⟨0,0,none⟩) (k.toNat*7)))),(15,.agg #[.bool M,.bool I,.bool R,.bool S,.bool ub,.int .i64 W,.int .i64 X]),(3,zp_ F 0),(32,.bool true),(39,.bool r)]) ?_ fun a0 q=>?_
   ·cases R
    ·try dsimp only[Con.kind,Con.parts,Con.name,Con.lo,Con.hi,Con.cap,Con.ad]at huo
     refine Zz 5 ?_;refine C_ (dn_ rfl rfl) rfl fun Z y=>Zz 4 ?_
     exact met (zm (jof rfl y))
    try dsimp only[Con.kind,Con.parts,Con.name,Con.lo,Con.hi,Con.cap,Con.ad]at huo
    exact hv_
   refine Zz 3 ?_;exact met ⟨rfl,rfl,rfl,rfl,rfl,rfl,rfl,rfl,rfl,(o_ rfl (jat d q)),trivial⟩
  refine Zz 1 ?_;refine at_ 8 ((((((((M)||(Con.empty (.mk kl Q K hl al cl pl))))&&(((I)||(Con.empty (.mk H N J O G L P))))))&&(((R)||(ro==[])))))&&(((S)||(a==[])))) (fun r=>[(0,.agg (Ax.cells (Ax.mk k Y (Con.mk kl Q K hl al cl pl) (Con.mk H N J O G L P) ad cap V ro a b)).toArray),(1,zp_ e 0),(2,.bool false),(11,.bool false),(12,zp_ e 0),(13,.int .i64 k),(14,.pointer (some (rad (some ⟨0,0,none⟩) (k.toNat*7)))),(15,.agg #[.bool M,.bool I,.bool R,.bool S,.bool ub,.int .i64 W,.int .i64 X]),(3,zp_ F 0),(49,.bool r)]) ?_ fun a0 q=>?_
  ·cases a3
   ·have d:=C
    simp at C
    try dsimp only[Con.kind,Con.parts,Con.name,Con.lo,Con.hi,Con.cap,Con.ad]at C
    refine Zz 10 ?_;exact fq_
   have d:=C;simp at C
   try dsimp only[Con.kind,Con.parts,Con.name,Con.lo,Con.hi,Con.cap,Con.ad]at C
   refine Zz 6 ?_;refine at_ 4 ((S)||(a==[])) (fun r=>[(0,.agg (Ax.cells (Ax.mk k Y (Con.mk kl Q K hl al cl pl) (Con.mk H N J O G L P) ad cap V ro a b)).toArray),(1,zp_ e 0),(2,.bool false),(11,.bool false),(12,zp_ e 0),(13,.int .i64 k),(14,.pointer (some (rad (some ⟨0,0,none⟩) (k.toNat*7)))),(15,.agg #[.bool M,.bool I,.bool R,.bool S,.bool ub,.int .i64 W,.int .i64 X]),(3,zp_ F 0),(41,.bool true),(48,.bool r)]) ?_ fun Z y=>?_
   ·cases S
    ·try dsimp only[Con.kind,Con.parts,Con.name,Con.lo,Con.hi,Con.cap,Con.ad]at hua
     refine Zz 5 ?_;refine C_ (dn_ rfl rfl) rfl fun a2 m=>Zz 4 ?_
     exact met (zm (jof rfl m))
    try dsimp only[Con.kind,Con.parts,Con.name,Con.lo,Con.hi,Con.cap,Con.ad]at hua
    exact hv_
   refine Zz 3 ?_;exact met ⟨rfl,rfl,rfl,rfl,rfl,rfl,rfl,rfl,rfl,(o_ rfl (jat d y)),trivial⟩
  refine Zz 1 ?_;refine at_ 8 ((((((((((M)||(Con.empty (.mk kl Q K hl al cl pl))))&&(((I)||(Con.empty (.mk H N J O G L P))))))&&(((R)||(ro==[])))))&&(((S)||(a==[])))))&&(((ub)||(b==[])))) (fun r=>[(0,.agg (Ax.cells (Ax.mk k Y (Con.mk kl Q K hl al cl pl) (Con.mk H N J O G L P) ad cap V ro a b)).toArray),(1,zp_ e 0),(2,.bool false),(11,.bool false),(12,zp_ e 0),(13,.int .i64 k),(14,.pointer (some (rad (some ⟨0,0,none⟩) (k.toNat*7)))),(15,.agg #[.bool M,.bool I,.bool R,.bool S,.bool ub,.int .i64 W,.int .i64 X]),(3,zp_ F 0),(58,.bool r)]) ?_ fun Z y=>?_
  ·cases a0
   ·have d:=q
    simp at q
    try dsimp only[Con.kind,Con.parts,Con.name,Con.lo,Con.hi,Con.cap,Con.ad]at q
    refine Zz 10 ?_;exact fq_
   have d:=q;simp at q
   try dsimp only[Con.kind,Con.parts,Con.name,Con.lo,Con.hi,Con.cap,Con.ad]at q
   refine Zz 6 ?_;refine at_ 4 ((ub)||(b==[])) (fun r=>[(0,.agg (Ax.cells (Ax.mk k Y (Con.mk kl Q K hl al cl pl) (Con.mk H N J O G L P) ad cap V ro a b)).toArray),(1,zp_ e 0),(2,.bool false),(11,.bool false),(12,zp_ e 0),(13,.int .i64 k),(14,.pointer (some (rad (some ⟨0,0,none⟩) (k.toNat*7)))),(15,.agg #[.bool M,.bool I,.bool R,.bool S,.bool ub,.int .i64 W,.int .i64 X]),(3,zp_ F 0),(50,.bool true),(57,.bool r)]) ?_ fun a2 m=>?_
   ·cases ub
    ·try dsimp only[Con.kind,Con.parts,Con.name,Con.lo,Con.hi,Con.cap,Con.ad]at hub
     refine Zz 5 ?_;refine C_ (dn_ rfl rfl) rfl fun a4 T=>Zz 4 ?_
     exact met (zm (jof rfl T))
    try dsimp only[Con.kind,Con.parts,Con.name,Con.lo,Con.hi,Con.cap,Con.ad]at hub
    exact hv_
   refine Zz 3 ?_;exact met ⟨rfl,rfl,rfl,rfl,rfl,rfl,rfl,rfl,rfl,(o_ rfl (jat d m)),trivial⟩
  refine Zz 1 ?_;refine at_ 7 ((((((((((((M)||(Con.empty (.mk kl Q K hl al cl pl))))&&(((I)||(Con.empty (.mk H N J O G L P))))))&&(((R)||(ro==[])))))&&(((S)||(a==[])))))&&(((ub)||(b==[])))))&&(decide (W≤(V.length:Int)))) (fun r=>[(0,.agg (Ax.cells (Ax.mk k Y (Con.mk kl Q K hl al cl pl) (Con.mk H N J O G L P) ad cap V ro a b)).toArray),(1,zp_ e 0),(2,.bool false),(11,.bool false),(12,zp_ e 0),(13,.int .i64 k),(14,.pointer (some (rad (some ⟨0,0,none⟩) (k.toNat*7)))),(15,.agg #[.bool M,.bool I,.bool R,.bool S,.bool ub,.int .i64 W,.int .i64 X]),(3,zp_ F 0),(66,.bool r)]) ?_ fun a2 m=>?_
  ·cases Z
   ·have d:=y
    simp at y
    try dsimp only[Con.kind,Con.parts,Con.name,Con.lo,Con.hi,Con.cap,Con.ad]at y
    refine Zz 9 ?_;exact fq_
   have d:=y;simp at y
   try dsimp only[Con.kind,Con.parts,Con.name,Con.lo,Con.hi,Con.cap,Con.ad]at y
   refine Zz 11 ?_;refine C_ (fa_ rfl rfl) rfl fun a4 T=>Zz 3 ?_
   exact met ⟨rfl,rfl,rfl,rfl,rfl,rfl,rfl,rfl,rfl,(o_ rfl (jat d T)),trivial⟩
  refine Zz 1 ?_;refine at_ 7 ((((((((((((((M)||(Con.empty (.mk kl Q K hl al cl pl))))&&(((I)||(Con.empty (.mk H N J O G L P))))))&&(((R)||(ro==[])))))&&(((S)||(a==[])))))&&(((ub)||(b==[])))))&&(decide (W≤(V.length:Int)))))&&(decide ((V.length:Int)≤X))) (fun r=>[(0,.agg (Ax.cells (Ax.mk k Y (Con.mk kl Q K hl al cl pl) (Con.mk H N J O G L P) ad cap V ro a b)).toArray),(1,zp_ e 0),(2,.bool false),(11,.bool false),(12,zp_ e 0),(13,.int .i64 k),(14,.pointer (some (rad (some ⟨0,0,none⟩) (k.toNat*7)))),(15,.agg #[.bool M,.bool I,.bool R,.bool S,.bool ub,.int .i64 W,.int .i64 X]),(3,zp_ F 0),(74,.bool r)]) ?_ fun a4 T=>?_
  ·cases a2
   ·have d:=m
    simp at m
    try dsimp only[Con.kind,Con.parts,Con.name,Con.lo,Con.hi,Con.cap,Con.ad]at m
    refine Zz 9 ?_;exact fq_
   have d:=m;simp at m
   try dsimp only[Con.kind,Con.parts,Con.name,Con.lo,Con.hi,Con.cap,Con.ad]at m
   refine Zz 11 ?_;refine C_ (dw_ rfl rfl) rfl fun r_10 a1=>Zz 3 ?_
   exact met ⟨rfl,rfl,rfl,rfl,rfl,rfl,rfl,rfl,rfl,(o_ rfl (jat d a1)),trivial⟩
  refine Zz 4 ?_;exact af_ Tryz.results61 () (o_ rfl (by unfold Ax.shaped;rw[if_neg (by simp only[not_or];omega)];simp only[a8];exact T.symm)) (.refl _) zt
 simp at U
 try dsimp only[Con.kind,Con.parts,Con.name,Con.lo,Con.hi,Con.cap,Con.ad]at U
 refine Zz 7 ?_;exact af_ Tryz.results61 () (o_ rfl (by unfold Ax.shaped;rw[if_pos (by simpa using U)])) (.refl _) zt
theorem pn (s:Str):(((if ba_ s then 0 else 20):Int) != 0)=!ba_ s:=by cases ba_ s<;>rfl
theorem uA_ (x:Ax) (G:x.ok) (u:Use):Tri Tryz.prog 62 #[x.val,.agg u.cells.toArray] [] [x.memF] (fun _:Unit=>.bool (x.namedU u)) (fun _=>[]) (fun _=>[]):=by
 obtain⟨k,Y,⟨kl,nl,Q,hl,al,cl,pl⟩,⟨N,W,P,X,M,R,pr⟩,ad,cap,y,ro,a,b⟩:=x;obtain⟨S,O,F,H,ub,um,V⟩:=u;have K:=G.len;have U:=G.cap;dsimp only at K U;refine j_ Tryz.func62 rfl rfl Tryz.ntmps62 rfl fun v_1=>?_;refine Zz 2 ?_;refine aa_ rfl rfl fun E=>aa_ rfl rfl fun I=>Zz 9 ?_
 refine at_ 5 ((F)&&(!(bx_ ro))) (fun r=>[(0,.agg (Ax.cells (Ax.mk k Y (Con.mk kl nl Q hl al cl pl) (Con.mk N W P X M R pr) ad cap y ro a b)).toArray),(1,.agg #[.bool S,.bool O,.bool F,.bool H,.bool ub,.int .i64 um,.int .i64 V]),(2,zp_ E 0),(3,zp_ I 0),(4,.bool false),(14,.bool r)]) ?_ fun r_1 B=>?_
 ·cases F
  ·try dsimp only[Con.kind,Con.parts,Con.name,Con.lo,Con.hi,Con.cap,Con.ad]at huo
   refine Zz 7 ?_;exact met ⟨rfl,rfl,rfl,rfl,rfl,(o_ rfl (jaf rfl)),trivial⟩
  try dsimp only[Con.kind,Con.parts,Con.name,Con.lo,Con.hi,Con.cap,Con.ad]at huo
  refine Zz 5 ?_;refine T_ (hk_ _) rfl (.refl _) zt rfl fun Z m=>aQ_ rfl rfl (e_ (aJ_ rfl) rfl (Zz 3 ?_))
  exact met ⟨rfl,rfl,rfl,rfl,rfl,(o_ rfl (jat rfl (jn m))),trivial⟩
 refine Zz 1 ?_;refine at_ 9 ((((F)&&(!(bx_ ro))))||(((H)&&(((if ba_ a then 0 else 20):Int) != 0)))) (fun r=>[(0,.agg (Ax.cells (Ax.mk k Y (Con.mk kl nl Q hl al cl pl) (Con.mk N W P X M R pr) ad cap y ro a b)).toArray),(1,.agg #[.bool S,.bool O,.bool F,.bool H,.bool ub,.int .i64 um,.int .i64 V]),(2,zp_ E 0),(3,zp_ I 0),(4,.bool false),(24,.bool r)]) ?_ fun Z m=>?_
 ·cases r_1
  ·have e:=B
   try dsimp only[Con.kind,Con.parts,Con.name,Con.lo,Con.hi,Con.cap,Con.ad]at B
   refine Zz 6 ?_;refine at_ 5 ((H)&&(((if ba_ a then 0 else 20):Int) != 0)) (fun r=>[(0,.agg (Ax.cells (Ax.mk k Y (Con.mk kl nl Q hl al cl pl) (Con.mk N W P X M R pr) ad cap y ro a b)).toArray),(1,.agg #[.bool S,.bool O,.bool F,.bool H,.bool ub,.int .i64 um,.int .i64 V]),(2,zp_ E 0),(3,zp_ I 0),(4,.bool false),(15,.bool false),(23,.bool r)]) ?_ fun T d=>?_
   ·cases H
    ·try dsimp only[Con.kind,Con.parts,Con.name,Con.lo,Con.hi,Con.cap,Con.ad]at hua
     refine Zz 8 ?_;exact met ⟨rfl,rfl,rfl,rfl,rfl,rfl,(o_ rfl (jaf rfl)),trivial⟩
    try dsimp only[Con.kind,Con.parts,Con.name,Con.lo,Con.hi,Con.cap,Con.ad]at hua
    refine Zz 5 ?_;refine i_ (gX_ _ G.a) rfl (.refl _) zt rfl fun _=>aQ_ rfl rfl (C_ (cf_ rfl rfl) rfl fun J A=>Zz 4 ?_)
    exact met ⟨rfl,rfl,rfl,rfl,rfl,rfl,(o_ rfl (jat rfl A)),trivial⟩
   refine Zz 3 ?_;exact met (zm (jof e d))
  have e:=B;try dsimp only[Con.kind,Con.parts,Con.name,Con.lo,Con.hi,Con.cap,Con.ad]at B
  refine Zz 11 ?_;exact met ⟨rfl,rfl,rfl,rfl,rfl,(o_ rfl (jot e)),trivial⟩
 refine Zz 1 ?_;refine at_ 9 ((((((F)&&(!(bx_ ro))))||(((H)&&(((if ba_ a then 0 else 20):Int) != 0)))))||(((ub)&&(((if ba_ b then 0 else 20):Int) != 0)))) (fun r=>[(0,.agg (Ax.cells (Ax.mk k Y (Con.mk kl nl Q hl al cl pl) (Con.mk N W P X M R pr) ad cap y ro a b)).toArray),(1,.agg #[.bool S,.bool O,.bool F,.bool H,.bool ub,.int .i64 um,.int .i64 V]),(2,zp_ E 0),(4,.bool false),(34,.bool r)]) ?_ fun T d=>?_
 ·cases Z
  ·have e:=m
   try dsimp only[Con.kind,Con.parts,Con.name,Con.lo,Con.hi,Con.cap,Con.ad]at m
   refine Zz 6 ?_;refine at_ 5 ((ub)&&(((if ba_ b then 0 else 20):Int) != 0)) (fun r=>[(0,.agg (Ax.cells (Ax.mk k Y (Con.mk kl nl Q hl al cl pl) (Con.mk N W P X M R pr) ad cap y ro a b)).toArray),(1,.agg #[.bool S,.bool O,.bool F,.bool H,.bool ub,.int .i64 um,.int .i64 V]),(2,zp_ E 0),(4,.bool false),(25,.bool false),(33,.bool r)]) ?_ fun J A=>?_
   ·cases ub
    ·try dsimp only[Con.kind,Con.parts,Con.name,Con.lo,Con.hi,Con.cap,Con.ad]at hub
     refine Zz 8 ?_;exact met ⟨rfl,rfl,rfl,rfl,rfl,(o_ rfl (jaf rfl)),trivial⟩
    try dsimp only[Con.kind,Con.parts,Con.name,Con.lo,Con.hi,Con.cap,Con.ad]at hub
    refine Zz 5 ?_;refine i_ (gX_ _ G.b) rfl (.refl _) zt rfl fun _=>aQ_ rfl rfl (C_ (cf_ rfl rfl) rfl fun r_5 C=>Zz 4 ?_)
    exact met ⟨rfl,rfl,rfl,rfl,rfl,(o_ rfl (jat rfl C)),trivial⟩
   refine Zz 3 ?_;exact met (zm (jof e A))
  have e:=m;try dsimp only[Con.kind,Con.parts,Con.name,Con.lo,Con.hi,Con.cap,Con.ad]at m
  refine Zz 11 ?_;exact met ⟨rfl,rfl,rfl,rfl,(o_ rfl (jot e)),trivial⟩
 refine Zz 2 ?_;cases T
 ·try dsimp only[Con.kind,Con.parts,Con.name,Con.lo,Con.hi,Con.cap,Con.ad]at d
  refine Zz 13 ?_;refine bC_ [(36,.slice ad y.length cap),(37,.int .i64 (y.length:Int)),(38,.int .i64 ((0:Nat):Int))] zl ?_;refine cc_ (ι:={q:Nat // q≤y.length∧(y.take q).all bx_=true}) (fun i=>[(36,.slice ad y.length cap),(37,.int .i64 (y.length:Int)),(38,.int .i64 (i.1:Int))]) (fun _=>_) (fun _=>_) (fun i=>y.length - i.1) ⟨0,by simp⟩ ?_;rintro ⟨i,hk⟩;refine bC_ [(36,.slice ad y.length cap),(37,.int .i64 (y.length:Int)),(38,.int .i64 (i:Int))] zl ?_;refine Zj 2 (fun A=>?_) fun A=>?_
  ·refine Zz 12 ?_
   exact af_ Tryz.results62 () (o_ rfl (by have hf:y.all bx_=true:=(by have:=hk.2;rwa [List.take_of_length_le zr_]at this);unfold Ax.namedU;simp only[pn]at d;simp only[hf,d];rfl)) (.refl _) zt
  have L:i<y.length:=by omega
  obtain⟨q,hp⟩:∃ q,y[i]? = some q:=⟨_,List.getElem?_eq_getElem L⟩;refine Zz 10 ?_;refine e_ (U_ m_ H_ rfl rfl (fun v _ h=>aE_ (n:=1) aw_ zx_ (h.1.2.2) hp) zr_ zz_) rfl ?_;refine Zz 7 ?_;refine T_ (hk_ _) rfl (.refl _) zt rfl fun J C=>e_ (aJ_ rfl) rfl (Zz 2 ?_)
  cases J
  ·try dsimp only[Con.kind,Con.parts,Con.name,Con.lo,Con.hi,Con.cap,Con.ad]at C
   refine Zz 7 ?_;exact af_ Tryz.results62 () (o_ rfl (by have hf:y.all bx_=false:=List.all_eq_false.2 ⟨q,List.mem_of_getElem? hp,by simp[*]⟩;unfold Ax.namedU;simp only[hf,Bool.and_false])) (.refl _) zt
  try dsimp only[Con.kind,Con.parts,Con.name,Con.lo,Con.hi,Con.cap,Con.ad]at C
  refine Zz 8 ?_;exact y_ ⟨i+1,L,by rw[List.take_add_one,hp];simp only[Option.toList_some,List.all_append,hk.2];simp[*]⟩ zH_ zl (.refl _) zh
 try dsimp only[Con.kind,Con.parts,Con.name,Con.lo,Con.hi,Con.cap,Con.ad]at d
 refine Zz 7 ?_;exact af_ Tryz.results62 () (o_ rfl (by unfold Ax.namedU;simp only[pn]at d;simp only[d];rfl)) (.refl _) zt
theorem Ax.shaped_kind {x:Ax} (h:x.shaped=true):1≤x.kind∧x.kind≤9:=by
 unfold Ax.shaped at h
 split at h
 ·cases h
 rename_i d;simp only[not_or]at d;omega
theorem ej_ {G:Prop} (h:G:=by
 refine Zz 9 ?_;exact ek_):G:=h
theorem dU_ {G:Prop} (h:G:=by
 refine Zz 7 ?_;exact ek_):G:=h
theorem mN_ {G:Prop} (h:G:=by
 refine Zz 2 ?_;cases R
 ·simp at d
  try dsimp only[Con.kind,Con.parts,Con.name,Con.lo,Con.hi,Con.cap,Con.ad]at d
  exact ej_
 simp at d
 try dsimp only[Con.kind,Con.parts,Con.name,Con.lo,Con.hi,Con.cap,Con.ad]at d
 exact dU_):G:=h
theorem mO_ {G:Prop} (h:G:=by
 refine T_ (dZ_ _ (.mk E H F I C G J) (Nat.le_refl _) A.right) rfl (.refl _) (fun v _ h=>⟨h.1.2.1,trivial⟩) rfl fun y K=>Zz 2 ?_
 cases y
 ·try dsimp only[Con.kind,Con.parts,Con.name,Con.lo,Con.hi,Con.cap,Con.ad]at K
  exact ej_
 try dsimp only[Con.kind,Con.parts,Con.name,Con.lo,Con.hi,Con.cap,Con.ad]at K
 exact dU_):G:=h
theorem mP_ {G:Prop} (h:G:=by
 refine Zz 11 ?_;refine T_ (dZ_ _ (.mk E H F I C G J) (Nat.le_refl _) A.right) rfl (.refl _) (fun v _ h=>⟨h.1.2.1,trivial⟩) rfl fun y d=>Zz 2 ?_
 cases y
 ·try dsimp only[Con.kind,Con.parts,Con.name,Con.lo,Con.hi,Con.cap,Con.ad]at d
  exact ej_
 try dsimp only[Con.kind,Con.parts,Con.name,Con.lo,Con.hi,Con.cap,Con.ad]at d
 exact dU_):G:=h
theorem mQ_ {G:Prop} (h:G:=by
 cases y
 ·have B:=q
  try dsimp only[Con.kind,Con.parts,Con.name,Con.lo,Con.hi,Con.cap,Con.ad]at q
  refine Zz 5 ?_;refine T_ (dZ_ _ (.mk E H F I C G J) (Nat.le_refl _) A.right) rfl (.refl _) (fun v _ h=>⟨h.1.2.1,trivial⟩) rfl fun a1 m=>Zz 3 ?_
  exact met (zm (jof B m))
 have B:=q;try dsimp only[Con.kind,Con.parts,Con.name,Con.lo,Con.hi,Con.cap,Con.ad]at q
 refine Zz 6 ?_;exact met ⟨rfl,rfl,rfl,rfl,rfl,rfl,rfl,rfl,rfl,rfl,rfl,rfl,rfl,rfl,rfl,rfl,rfl,rfl,rfl,rfl,rfl,rfl,rfl,rfl,rfl,rfl,rfl,rfl,rfl,(o_ rfl (jot B)),trivial⟩):G:=h
theorem jD_ {G:Prop} (h:G:=by
 refine T_ (dZ_ _ (.mk E H F I C G J) (Nat.le_refl _) A.right) rfl (.refl _) (fun v _ h=>⟨h.1.2.1,trivial⟩) rfl fun y m=>Zz 2 ?_
 cases y
 ·try dsimp only[Con.kind,Con.parts,Con.name,Con.lo,Con.hi,Con.cap,Con.ad]at m
  exact ej_
 try dsimp only[Con.kind,Con.parts,Con.name,Con.lo,Con.hi,Con.cap,Con.ad]at m
 exact dU_):G:=h
theorem mR_ {G:Prop} (h:G:=by
 refine Zj 7 (fun q=>?_) fun q=>?_
 ·refine Zj 6 (fun d=>?_) fun d=>?_
  ·refine Zj 5 (fun m=>?_) fun m=>?_
   ·refine Zz 12 ?_
    exact ek_
   refine Zz 8 ?_;exact mO_
  refine Zz 11 ?_;exact jD_
 exact mP_):G:=h
theorem ek_ {G:Prop} (h:G:=by
 exact af_ Tryz.results29 () (cl_ rfl (by unfold Ax.check;simp only[e];simp_all)) (.refl _) zt):G:=h
theorem hX_ (x:Ax) (A:x.ok):Tri Tryz.prog 29 #[x.val] [] [x.memF,bV_] (fun _:Unit=>.int .i64 x.check) (fun _=>[]) (fun _=>[]):=by
 obtain⟨k,T,⟨kl,O,N,hl,al,cl,pl⟩,⟨E,H,F,I,C,G,J⟩,ad,cap,S,ro,a,b⟩:=x;refine j_ Tryz.func29 rfl rfl Tryz.ntmps29 rfl fun v_1=>?_;refine Zz 2 ?_;refine aa_ rfl rfl fun M=>Zz 7 ?_
 refine T_ (sy_ ⟨k,T,(.mk kl O N hl al cl pl),(.mk E H F I C G J),ad,cap,S,ro,a,b⟩) rfl (.refl _) zf rfl fun r_1 U=>e_ (aJ_ rfl) rfl (Zz 2 ?_)
 cases r_1
 ·try dsimp only[Con.kind,Con.parts,Con.name,Con.lo,Con.hi,Con.cap,Con.ad]at U
  refine Zz 7 ?_;exact af_ Tryz.results29 () (cl_ rfl (by unfold Ax.check;simp_all)) (.refl _) zt
 try dsimp only[Con.kind,Con.parts,Con.name,Con.lo,Con.hi,Con.cap,Con.ad]at U
 have hk_1:1≤k∧k≤9:=Ax.shaped_kind U;obtain⟨u,hx⟩:∃ u,tQ_[k.toNat]? = some u:=⟨_,List.getElem?_eq_getElem (show k.toNat<10 by omega)⟩;have e:us k=u:=by simp[us,hx]
 obtain⟨ul,ur,V,X,ub,Y,W⟩:=u;refine Zz 7 ?_;refine e_ (em_ Tryz.runUnderlying96 jZ_ rfl rfl zbi_ (by show k<(10:Int);omega)) rfl ?_;refine e_ (au_ (ad:=some ⟨0,0,none⟩) (us:=Use.cells ⟨ul,ur,V,X,ub,Y,W⟩) Tryz.isAgg95 jZ_ rfl (fun v _ h=>h.2.1.2.1) (Use.cells_len _) (p_ Use.cells_len hx)) rfl (D_ Tryz.zeroValue95 rfl fun P=>x_ 0 jZ_ rfl rfl rfl rfl rfl rfl (Zz 7 ?_));refine T_ (uA_ ⟨k,T,(.mk kl O N hl al cl pl),(.mk E H F I C G J),ad,cap,S,ro,a,b⟩ A ⟨ul,ur,V,X,ub,Y,W⟩) rfl (.refl _) zf rfl fun r_2 a0=>e_ (aJ_ rfl) rfl (Zz 2 ?_)
 cases r_2
 ·try dsimp only[Con.kind,Con.parts,Con.name,Con.lo,Con.hi,Con.cap,Con.ad]at a0
  exact dU_
 try dsimp only[Con.kind,Con.parts,Con.name,Con.lo,Con.hi,Con.cap,Con.ad]at a0
 refine Zz 10 ?_;cases ul
 ·try dsimp only[Con.kind,Con.parts,Con.name,Con.lo,Con.hi,Con.cap,Con.ad]at hul
  refine Zz 10 ?_;cases ur
  ·try dsimp only[Con.kind,Con.parts,Con.name,Con.lo,Con.hi,Con.cap,Con.ad]at hur
   refine Zj 13 (fun Q=>?_) fun Q=>?_
   ·refine Zj 7 (fun L=>?_) fun L=>?_
    ·refine Zj 6 (fun q=>?_) fun q=>?_
     ·refine Zj 5 (fun d=>?_) fun d=>?_
      ·refine Zz 12 ?_
       exact ek_
      refine Zz 8 ?_;exact jD_
     exact mP_
    refine Zz 11 ?_;refine T_ (dZ_ _ (.mk E H F I C G J) (Nat.le_refl _) A.right) rfl (.refl _) (fun v _ h=>⟨h.1.2.1,trivial⟩) rfl fun y q=>Zz 2 ?_
    cases y
    ·try dsimp only[Con.kind,Con.parts,Con.name,Con.lo,Con.hi,Con.cap,Con.ad]at q
     exact ej_
    try dsimp only[Con.kind,Con.parts,Con.name,Con.lo,Con.hi,Con.cap,Con.ad]at q
    exact dU_
   refine Zz 8 ?_;refine T_ (dZ_ _ (.mk kl O N hl al cl pl) (Nat.le_refl _) A.left) rfl (.refl _) (fun v _ h=>⟨h.1.1,trivial⟩) rfl fun y L=>Zz 1 ?_
   refine at_ 4 ((Con.bare (.mk kl O N hl al cl pl))||(Con.bare (.mk E H F I C G J))) (fun r=>[(0,.agg (Ax.cells (Ax.mk k T (Con.mk kl O N hl al cl pl) (Con.mk E H F I C G J) ad cap S ro a b)).toArray),(1,zp_ M 0),(2,.int .i64 0),(6,.agg (Ax.cells (Ax.mk k T (Con.mk kl O N hl al cl pl) (Con.mk E H F I C G J) ad cap S ro a b)).toArray),(7,.bool true),(8,.bool false),(9,zp_ M 0),(10,.int .i64 k),(11,.pointer (some (rad (some ⟨0,0,none⟩) (k.toNat*7)))),(12,.agg #[.bool false,.bool false,.bool V,.bool X,.bool ub,.int .i64 Y,.int .i64 W]),(3,zp_ P 0),(13,.agg (Ax.cells (Ax.mk k T (Con.mk kl O N hl al cl pl) (Con.mk E H F I C G J) ad cap S ro a b)).toArray),(14,.agg #[.bool false,.bool false,.bool V,.bool X,.bool ub,.int .i64 Y,.int .i64 W]),(15,.bool true),(16,.bool false),(17,zp_ P 0),(18,.bool false),(25,zp_ P 1),(26,.bool false),(33,zp_ M 0),(34,.int .i64 k),(36,.bool true),(35,.bool true),(44,.bool r)]) ?_ fun R q=>?_
   ·cases y
    ·have B:=L
     try dsimp only[Con.kind,Con.parts,Con.name,Con.lo,Con.hi,Con.cap,Con.ad]at L
     refine Zz 5 ?_;refine T_ (dZ_ _ (.mk E H F I C G J) (Nat.le_refl _) A.right) rfl (.refl _) (fun v _ h=>⟨h.1.2.1,trivial⟩) rfl fun a1 d=>Zz 3 ?_
     exact met (zm (jof B d))
    have B:=L;try dsimp only[Con.kind,Con.parts,Con.name,Con.lo,Con.hi,Con.cap,Con.ad]at L
    refine Zz 6 ?_;exact met ⟨rfl,rfl,rfl,rfl,rfl,rfl,rfl,rfl,rfl,rfl,rfl,rfl,rfl,rfl,rfl,rfl,rfl,rfl,rfl,rfl,rfl,rfl,rfl,(o_ rfl (jot B)),trivial⟩
   refine Zz 2 ?_;cases R
   ·simp at q
    try dsimp only[Con.kind,Con.parts,Con.name,Con.lo,Con.hi,Con.cap,Con.ad]at q
    exact ej_
   simp at q
   try dsimp only[Con.kind,Con.parts,Con.name,Con.lo,Con.hi,Con.cap,Con.ad]at q
   exact dU_
  try dsimp only[Con.kind,Con.parts,Con.name,Con.lo,Con.hi,Con.cap,Con.ad]at hur
  refine Zz 5 ?_;refine i_ (fn_ (.mk E H F I C G J) A.right) rfl (.refl _) (fun v _ h=>⟨h.1.2.1,h.2.1,trivial⟩) rfl fun _=>Zj 6 (fun Q=>?_) fun Q=>?_
  ·refine Zj 15 (fun L=>?_) fun L=>?_
   ·exact mR_
   refine Zz 8 ?_;refine T_ (dZ_ _ (.mk kl O N hl al cl pl) (Nat.le_refl _) A.left) rfl (.refl _) (fun v _ h=>⟨h.1.1,trivial⟩) rfl fun y q=>Zz 1 ?_
   refine at_ 4 ((Con.bare (.mk kl O N hl al cl pl))||(Con.bare (.mk E H F I C G J))) (fun r=>[(0,.agg (Ax.cells (Ax.mk k T (Con.mk kl O N hl al cl pl) (Con.mk E H F I C G J) ad cap S ro a b)).toArray),(1,zp_ M 0),(2,.int .i64 0),(6,.agg (Ax.cells (Ax.mk k T (Con.mk kl O N hl al cl pl) (Con.mk E H F I C G J) ad cap S ro a b)).toArray),(7,.bool true),(8,.bool false),(9,zp_ M 0),(10,.int .i64 k),(11,.pointer (some (rad (some ⟨0,0,none⟩) (k.toNat*7)))),(12,.agg #[.bool false,.bool true,.bool V,.bool X,.bool ub,.int .i64 Y,.int .i64 W]),(3,zp_ P 0),(13,.agg (Ax.cells (Ax.mk k T (Con.mk kl O N hl al cl pl) (Con.mk E H F I C G J) ad cap S ro a b)).toArray),(14,.agg #[.bool false,.bool true,.bool V,.bool X,.bool ub,.int .i64 Y,.int .i64 W]),(15,.bool true),(16,.bool false),(17,zp_ P 0),(18,.bool false),(25,zp_ P 1),(26,.bool true),(27,zp_ M 7),(28,.agg (Con.cells (Con.mk E H F I C G J)).toArray),(29,.int .i64 (Con.check (.mk E H F I C G J))),(5,.int .i64 (Con.check (.mk E H F I C G J))),(30,.int .i64 (Con.check (.mk E H F I C G J))),(31,.bool false),(33,zp_ M 0),(34,.int .i64 k),(36,.bool true),(35,.bool true),(44,.bool r)]) ?_ fun R d=>?_
   ·exact mQ_
   exact mN_
  refine Zz 10 ?_;exact ek_
 try dsimp only[Con.kind,Con.parts,Con.name,Con.lo,Con.hi,Con.cap,Con.ad]at hul
 refine Zz 5 ?_;refine i_ (fn_ (.mk kl O N hl al cl pl) A.left) rfl (.refl _) (fun v _ h=>⟨h.1.1,h.2.1,trivial⟩) rfl fun _=>Zj 6 (fun Q=>?_) fun Q=>?_
 ·refine Zz 12 ?_
  cases ur
  ·try dsimp only[Con.kind,Con.parts,Con.name,Con.lo,Con.hi,Con.cap,Con.ad]at hur
   refine Zj 13 (fun L=>?_) fun L=>?_
   ·exact mR_
   refine Zz 8 ?_;refine T_ (dZ_ _ (.mk kl O N hl al cl pl) (Nat.le_refl _) A.left) rfl (.refl _) (fun v _ h=>⟨h.1.1,trivial⟩) rfl fun y q=>Zz 1 ?_
   refine at_ 4 ((Con.bare (.mk kl O N hl al cl pl))||(Con.bare (.mk E H F I C G J))) (fun r=>[(0,.agg (Ax.cells (Ax.mk k T (Con.mk kl O N hl al cl pl) (Con.mk E H F I C G J) ad cap S ro a b)).toArray),(1,zp_ M 0),(2,.int .i64 0),(6,.agg (Ax.cells (Ax.mk k T (Con.mk kl O N hl al cl pl) (Con.mk E H F I C G J) ad cap S ro a b)).toArray),(7,.bool true),(8,.bool false),(9,zp_ M 0),(10,.int .i64 k),(11,.pointer (some (rad (some ⟨0,0,none⟩) (k.toNat*7)))),(12,.agg #[.bool true,.bool false,.bool V,.bool X,.bool ub,.int .i64 Y,.int .i64 W]),(3,zp_ P 0),(13,.agg (Ax.cells (Ax.mk k T (Con.mk kl O N hl al cl pl) (Con.mk E H F I C G J) ad cap S ro a b)).toArray),(14,.agg #[.bool true,.bool false,.bool V,.bool X,.bool ub,.int .i64 Y,.int .i64 W]),(15,.bool true),(16,.bool false),(17,zp_ P 0),(18,.bool true),(19,zp_ M 2),(20,.agg (Con.cells (Con.mk kl O N hl al cl pl)).toArray),(21,.int .i64 (Con.check (.mk kl O N hl al cl pl))),(4,.int .i64 (Con.check (.mk kl O N hl al cl pl))),(22,.int .i64 (Con.check (.mk kl O N hl al cl pl))),(23,.bool false),(25,zp_ P 1),(26,.bool false),(33,zp_ M 0),(34,.int .i64 k),(36,.bool true),(35,.bool true),(44,.bool r)]) ?_ fun R d=>?_
   ·exact mQ_
   exact mN_
  try dsimp only[Con.kind,Con.parts,Con.name,Con.lo,Con.hi,Con.cap,Con.ad]at hur
  refine Zz 5 ?_;refine i_ (fn_ (.mk E H F I C G J) A.right) rfl (.refl _) (fun v _ h=>⟨h.1.2.1,h.2.1,trivial⟩) rfl fun _=>Zj 6 (fun L=>?_) fun L=>?_
  ·refine Zj 15 (fun q=>?_) fun q=>?_
   ·refine Zj 7 (fun d=>?_) fun d=>?_
    ·refine Zj 6 (fun m=>?_) fun m=>?_
     ·refine Zj 5 (fun K=>?_) fun K=>?_
      ·refine Zz 12 ?_
       exact ek_
      refine Zz 8 ?_;refine T_ (dZ_ _ (.mk E H F I C G J) (Nat.le_refl _) A.right) rfl (.refl _) (fun v _ h=>⟨h.1.2.1,trivial⟩) rfl fun y Z=>Zz 2 ?_
      cases y
      ·try dsimp only[Con.kind,Con.parts,Con.name,Con.lo,Con.hi,Con.cap,Con.ad]at Z
       exact ej_
      try dsimp only[Con.kind,Con.parts,Con.name,Con.lo,Con.hi,Con.cap,Con.ad]at Z
      exact dU_
     refine Zz 11 ?_;exact mO_
    refine Zz 11 ?_;exact jD_
   refine Zz 8 ?_;refine T_ (dZ_ _ (.mk kl O N hl al cl pl) (Nat.le_refl _) A.left) rfl (.refl _) (fun v _ h=>⟨h.1.1,trivial⟩) rfl fun y d=>Zz 1 ?_
   refine at_ 4 ((Con.bare (.mk kl O N hl al cl pl))||(Con.bare (.mk E H F I C G J))) (fun r=>[(0,.agg (Ax.cells (Ax.mk k T (Con.mk kl O N hl al cl pl) (Con.mk E H F I C G J) ad cap S ro a b)).toArray),(1,zp_ M 0),(2,.int .i64 0),(6,.agg (Ax.cells (Ax.mk k T (Con.mk kl O N hl al cl pl) (Con.mk E H F I C G J) ad cap S ro a b)).toArray),(7,.bool true),(8,.bool false),(9,zp_ M 0),(10,.int .i64 k),(11,.pointer (some (rad (some ⟨0,0,none⟩) (k.toNat*7)))),(12,.agg #[.bool true,.bool true,.bool V,.bool X,.bool ub,.int .i64 Y,.int .i64 W]),(3,zp_ P 0),(13,.agg (Ax.cells (Ax.mk k T (Con.mk kl O N hl al cl pl) (Con.mk E H F I C G J) ad cap S ro a b)).toArray),(14,.agg #[.bool true,.bool true,.bool V,.bool X,.bool ub,.int .i64 Y,.int .i64 W]),(15,.bool true),(16,.bool false),(17,zp_ P 0),(18,.bool true),(19,zp_ M 2),(20,.agg (Con.cells (Con.mk kl O N hl al cl pl)).toArray),(21,.int .i64 (Con.check (.mk kl O N hl al cl pl))),(4,.int .i64 (Con.check (.mk kl O N hl al cl pl))),(22,.int .i64 (Con.check (.mk kl O N hl al cl pl))),(23,.bool false),(25,zp_ P 1),(26,.bool true),(27,zp_ M 7),(28,.agg (Con.cells (Con.mk E H F I C G J)).toArray),(29,.int .i64 (Con.check (.mk E H F I C G J))),(5,.int .i64 (Con.check (.mk E H F I C G J))),(30,.int .i64 (Con.check (.mk E H F I C G J))),(31,.bool false),(33,zp_ M 0),(34,.int .i64 k),(36,.bool true),(35,.bool true),(44,.bool r)]) ?_ fun R m=>?_
   ·cases y
    ·have B:=d
     try dsimp only[Con.kind,Con.parts,Con.name,Con.lo,Con.hi,Con.cap,Con.ad]at d
     refine Zz 5 ?_;refine T_ (dZ_ _ (.mk E H F I C G J) (Nat.le_refl _) A.right) rfl (.refl _) (fun v _ h=>⟨h.1.2.1,trivial⟩) rfl fun a1 K=>Zz 3 ?_
     exact met (zm (jof B K))
    have B:=d;try dsimp only[Con.kind,Con.parts,Con.name,Con.lo,Con.hi,Con.cap,Con.ad]at d
    refine Zz 6 ?_;exact met ⟨rfl,rfl,rfl,rfl,rfl,rfl,rfl,rfl,rfl,rfl,rfl,rfl,rfl,rfl,rfl,rfl,rfl,rfl,rfl,rfl,rfl,rfl,rfl,rfl,rfl,rfl,rfl,rfl,rfl,rfl,rfl,rfl,rfl,rfl,rfl,(o_ rfl (jot B)),trivial⟩
   refine Zz 2 ?_;cases R
   ·simp at m
    try dsimp only[Con.kind,Con.parts,Con.name,Con.lo,Con.hi,Con.cap,Con.ad]at m
    exact ej_
   simp at m
   try dsimp only[Con.kind,Con.parts,Con.name,Con.lo,Con.hi,Con.cap,Con.ad]at m
   exact dU_
  refine Zz 10 ?_;exact ek_
 refine Zz 10 ?_;exact ek_
def prE:Array MapEntry:=#[⟨.int .i64 1,.func (.func 229) #[] #[],0⟩,⟨.int .i64 2,.func (.func 230) #[] #[],1⟩,⟨.int .i64 3,.func (.func 231) #[] #[],2⟩,⟨.int .i64 4,.func (.func 232) #[] #[],3⟩,⟨.int .i64 5,.func (.func 233) #[] #[],4⟩,⟨.int .i64 6,.func (.func 234) #[] #[],5⟩,⟨.int .i64 7,.func (.func 235) #[] #[],6⟩]
def prF (m:Nat):Fct:=ck_ m (.map prE 7)
def prV (m n:Nat):Value:=.agg #[.map (some m),.map (some n)]
theorem elt39:Elt Tryz.prog 25 9 1 16:=iV_ iy_ (z:=.string ⟨#[]⟩) zw_ rfl zx_
theorem wn_ {b n cap:Nat} (h:List Str) (d:Str) (H:h.length=n) {k:Array Value} {T:TypeId} {fz:Nat×Nat} (G:∀ (j:Nat) (x:Str),h[j]? = some x→k[j]? = some (str x)) (A:h.length≤cap) (J:h.length≤1000000) (m:(Lib.join h d).length≤140737488355328) :
    Tri Tryz.prog 252 #[.slice (some ⟨b,0,none⟩) n cap,str d] [(b,.cells k T fz)] [bV_] (fun _:Unit=>str (Lib.join h d)) (fun _=>[(b,.cells k T fz)]) (fun _=>[]):=by
  subst H;refine dh_ (callable Tryz.func252 rfl rfl) fun v B F=>?_;have C:=(B.own _ List.mem_cons_self).1;have e:(h.map fun x=>(⟨x.toArray⟩:ByteArray)).map (·.data.toList)=h:=by simp[List.map_map,Function.comp_def]
  have:=Tryz.strings_Join b 0 cap (h.map fun x=>⟨x.toArray⟩) ⟨d.toArray⟩ v.w (fun j x E=>by
    simp only[List.getElem?_map,Option.map_eq_some_iff]at E;obtain⟨y,I,rfl⟩:=E;simp only[World.cell?,C,Nat.zero_add];exact G j y I) (Array.getElem?_eq_some_iff.1 C).1 zH_ zaE_ (by rw[e];exact m)
  rw[e,List.length_map]at this;exact this.mono fun _ _ q=>⟨q.1,q.2,.inl F.1.2.2.2.1⟩
theorem wp_ (n:Int) (m:-9223372036854775808≤n) (d:n≤9223372036854775807):Tri Tryz.prog 254 #[.int .i64 n] [] [bV_] (fun _:Unit=>str (Lib.itoa n)) (fun _=>[]) (fun _=>[]) :=
  dh_ (callable Tryz.func254 rfl rfl) fun v _ h=>(Tryz.strconv_Itoa n m d v.w (ug_ h.1.2.2.2)).mono (by
    rintro e w' ⟨rfl,k,os,rfl⟩;exact⟨rfl,sP_ _ _ _,.inr (Nat.le_add_right _ _)⟩)
theorem ta_ {b n:Nat} (e:List Str) (m:e.length=n) {d:Array Value} {T:TypeId} {fz:Nat×Nat} (y:∀ (j:Nat) (x:Str),e[j]? = some x→d[j]? = some (str x)) (q:e.length≤1000000) (k:(Lib.join e [32]).length≤140737488355328) :
    Tri Tryz.prog 253 #[.slice (some ⟨b,0,none⟩) n n] [(b,.cells d T fz)] [bV_] (fun _:Unit=>str (Lib.join e [32])) (fun _=>[(b,.cells d T fz)]) (fun _=>[]):=by
  refine j_ Tryz.func253 rfl rfl Tryz.ntmps253 rfl fun A=>?_;refine Zz 8 ?_;refine i_ (wn_ e [32] m y (Nat.le_of_eq m) q k) rfl (.refl _) (fun v _ h=>h) rfl fun _=>Zz 4 ?_
  exact af_ Tryz.results253 () rfl (F:=[]) (.refl _) zt
theorem pr_top (c:Con) (m n:Nat) (hk:c.kind=1):Tri Tryz.prog 229 #[prV m n,c.val] [] [c.memF,prF m,bV_] (fun _:Unit=>str c.text) (fun _=>[]) (fun _=>[]):=by
  obtain⟨k,nm,lo,hi,ad,cap,ps⟩:=c;simp only[Con.kind]at hk;refine j_ Tryz.func229 rfl rfl Tryz.ntmps229 rfl fun e=>?_;refine Zz 2 ?_;refine aa_ rfl rfl fun h=>aa_ rfl rfl fun d=>Zz 9 ?_
  exact af_ Tryz.results229 () (gi_ rfl zaf_) (.refl _) zt
theorem uf_ (c:Con) (m n:Nat) (hk:c.kind=2):Tri Tryz.prog 230 #[prV m n,c.val] [] [c.memF,prF m,bV_] (fun _:Unit=>str c.text) (fun _=>[]) (fun _=>[]):=by
  obtain⟨k,nm,lo,hi,ad,cap,ps⟩:=c;simp only[Con.kind]at hk;refine j_ Tryz.func230 rfl rfl Tryz.ntmps230 rfl fun e=>?_;refine Zz 2 ?_;refine aa_ rfl rfl fun h=>aa_ rfl rfl fun d=>Zz 9 ?_
  exact af_ Tryz.results230 () (gi_ rfl zaf_) (.refl _) zt
theorem vO_ (c:Con) (m n:Nat) (hk:c.kind=3):Tri Tryz.prog 231 #[prV m n,c.val] [] [c.memF,prF m,bV_] (fun _:Unit=>str c.text) (fun _=>[]) (fun _=>[]):=by
  obtain⟨k,nm,lo,hi,ad,cap,ps⟩:=c;simp only[Con.kind]at hk;refine j_ Tryz.func231 rfl rfl Tryz.ntmps231 rfl fun e=>?_;refine Zz 2 ?_;refine aa_ rfl rfl fun h=>aa_ rfl rfl fun d=>Zz 11 ?_
  exact af_ Tryz.results231 () (gi_ rfl zaf_) (.refl _) zt
theorem sj_ (c:Con) (m n:Nat) (hk:c.kind=4) (hl:c.name.length≤24):Tri Tryz.prog 232 #[prV m n,c.val] [] [c.memF,prF m,bV_] (fun _:Unit=>str c.text) (fun _=>[]) (fun _=>[]):=by
  obtain⟨k,nm,lo,hi,ad,cap,ps⟩:=c;simp only[Con.kind]at hk;refine j_ Tryz.func232 rfl rfl Tryz.ntmps232 rfl fun d=>?_;simp only[Con.name]at hl;refine Zz 2 ?_;refine aa_ rfl rfl fun h=>aa_ rfl rfl fun e=>Zz 7 ?_
  refine e_ (eK_ rfl rfl (by simp[Con.name];omega)) rfl ?_;refine e_ (eK_ rfl rfl (by simp[Con.name];omega)) rfl ?_;refine Zz 4 ?_;exact af_ Tryz.results232 () (gi_ rfl zaf_) (.refl _) zt
theorem mM_ {G:Prop} (h:G:=by
 exact af_ Tryz.results251 () (gi_ rfl (by unfold Con.operand;first|exact (if_pos zB_).symm|exact (if_neg zB_).symm)) (.refl _) zt):G:=h
theorem si_ (c:Con) (m n:Nat) (hl:c.text.length≤100000) (e:Tri Tryz.prog 214 #[prV m n,c.val] [] [c.memF,prF m,bV_] (fun _:Unit=>str c.text) (fun _=>[]) (fun _=>[])):Tri Tryz.prog 251 #[prV m n,c.val] [] [c.memF,prF m,bV_] (fun _:Unit=>str c.operand) (fun _=>[]) (fun _=>[]):=by
 obtain⟨k,nm,lo,hi,ad,cap,ps⟩:=c;refine j_ Tryz.func251 rfl rfl Tryz.ntmps251 rfl fun q=>?_;refine Zz 2 ?_;refine aa_ rfl rfl fun y=>aa_ rfl rfl fun x=>Zj 8 (fun d=>?_) fun d=>?_
 ·refine Zz 9 ?_
  refine i_ (e) rfl (.refl _) (fun v _ h=>h) rfl fun _=>Zz 4 ?_
  exact mM_
 refine Zz 7 ?_;refine i_ (e) rfl (.refl _) (fun v _ h=>h) rfl fun _=>?_;refine e_ (eK_ rfl rfl zL_) rfl ?_;refine e_ (eK_ rfl rfl zL_) rfl ?_;refine Zz 4 ?_;exact mM_
theorem gw_ (c:Con) (m n:Nat) {g i:Nat} (x:dJ_ Tryz.prog 3 (.int .i64 c.kind) prE.toList (some (i,.func (.func g) #[] #[]))) (d:Tri Tryz.prog g #[prV m n,c.val] [] [c.memF,prF m,bV_] (fun _:Unit=>str c.text) (fun _=>[]) (fun _=>[])):Tri Tryz.prog 214 #[prV m n,c.val] [] [c.memF,prF m,bV_] (fun _:Unit=>str c.text) (fun _=>[]) (fun _=>[]):=by
  obtain⟨k,nm,lo,hi,ad,cap,ps⟩:=c;refine j_ Tryz.func214 rfl rfl Tryz.ntmps214 rfl fun e=>?_;refine Zz 2 ?_;refine aa_ rfl rfl fun y=>aa_ rfl rfl fun q=>Zz 9 ?_
  refine e_ (fs_ dA_ rfl rfl (fun v _ h=>h.2.1.2) (bo_ s_) x) rfl (Zz 2 ?_);refine aA_ (d) rfl rfl (.refl _) zf rfl fun _=>Zz 4 ?_
  exact af_ Tryz.results214 () rfl (.refl _) zt
theorem xu_:ij_ Tryz.prog 253 [(0,1),(1,1)] [.map none,.map none]:=⟨_,Tryz.zeroValue253,cG_,fun w=>by simp[Tryz.sizeOf250,Tryz.sizeOf251]⟩
theorem pG_:Tri Tryz.prog 213 #[] [] [] (fun q:Nat×Nat=>prV q.1 q.2) (fun _=>[]) (fun q=>[prF q.1]):=by
  refine j_ Tryz.func213 rfl rfl Tryz.ntmps213 rfl fun m=>?_;refine Zz 2 ?_;refine D_ Tryz.zeroValue253 rfl fun x=>Zz 4 ?_
  refine bn_ rfl fun e=>bi_ 0 (.inl rfl) dA_ rfl rfl rfl rfl (bo_ s_) (aW_ s_ rfl) (bi_ 0 (.inl rfl) dA_ rfl rfl rfl rfl (bo_ s_) (aW_ s_ rfl) (bi_ 0 (.inl rfl) dA_ rfl rfl rfl rfl (bo_ s_) (aW_ s_ rfl) (bi_ 0 (.inl rfl) dA_ rfl rfl rfl rfl (bo_ s_) (aW_ s_ rfl) (bi_ 0 (.inl rfl) dA_ rfl rfl rfl rfl (bo_ s_) (aW_ s_ rfl) (bi_ 0 (.inl rfl) dA_ rfl rfl rfl rfl (bo_ s_) (aW_ s_ rfl) (bi_ 0 (.inl rfl) dA_ rfl rfl rfl rfl (bo_ s_) (aW_ s_ rfl) (Zz 1 ?_)))))))
  refine bn_ rfl fun d=>bi_ 0 (.inl rfl) cH_ rfl rfl rfl rfl (bo_ s_) (aW_ s_ rfl) (bi_ 0 (.inl rfl) cH_ rfl rfl rfl rfl (bo_ s_) (aW_ s_ rfl) (bi_ 0 (.inl rfl) cH_ rfl rfl rfl rfl (bo_ s_) (aW_ s_ rfl) (bi_ 0 (.inl rfl) cH_ rfl rfl rfl rfl (bo_ s_) (aW_ s_ rfl) (bi_ 0 (.inl rfl) cH_ rfl rfl rfl rfl (bo_ s_) (aW_ s_ rfl) (bi_ 0 (.inl rfl) cH_ rfl rfl rfl rfl (bo_ s_) (aW_ s_ rfl) (bi_ 0 (.inl rfl) cH_ rfl rfl rfl rfl (bo_ s_) (aW_ s_ rfl) (bi_ 0 (.inl rfl) cH_ rfl rfl rfl rfl (bo_ s_) (aW_ s_ rfl) (bi_ 0 (.inl rfl) cH_ rfl rfl rfl rfl (bo_ s_) (aW_ s_ rfl) (Zz 1 ?_)))))))))
  refine e_ (K_ xu_ rfl rfl) rfl (x_ 2 Tryz.sizeOf253 rfl rfl rfl rfl rfl rfl (Zz 3 ?_));refine iM_ 1 rfl ?_;exact hi_ (e,d) (fun a v k h=>ex_ (us:=[_,_]) 1 Tryz.results213 Tryz.isAgg253 Tryz.sizeOf253 rfl rfl rfl a v k h) (.refl _) zf
theorem pr_and (c:Con) (m n:Nat) (x:c.kind=5) (K:2≤c.parts.length∧c.parts.length≤8) (hl:(Lib.join (c.parts.map Con.operand) [32,97,110,100,32]).length≤140737488355328) (C:∀ p∈c.parts,Tri Tryz.prog 251 #[prV m n,p.val] [] [p.memF,prF m,bV_] (fun _:Unit=>str p.operand) (fun _=>[]) (fun _=>[])):Tri Tryz.prog 233 #[prV m n,c.val] [] [c.memF,prF m,bV_] (fun _:Unit=>str c.text) (fun _=>[]) (fun _=>[]):=by
 obtain⟨k,nm,lo,hi,ad,cap,ps⟩:=c;simp only[Con.kind,Con.parts]at x K hl C;refine j_ Tryz.func233 rfl rfl Tryz.ntmps233 rfl fun N=>?_;refine Zz 2 ?_;refine aa_ rfl rfl fun d=>aa_ rfl rfl fun O=>Zz 18 ?_
 refine bC_ [(2,zp_ d 0),(5,.slice none 0 0),(9,.slice ad ps.length cap),(10,.int .i64 (ps.length:Int)),(11,.int .i64 ((0:Nat):Int))] zl ?_;refine cc_ (ι:={q:Nat×Value×Hp // q.1≤ps.length∧aB_ 9 1 q.2.1 q.1 ((ps.take q.1).flatMap fun p=>ap_ p.operand) q.2.2}) (fun q=>[(2,zp_ d 0),(5,q.1.2.1),(9,.slice ad ps.length cap),(10,.int .i64 (ps.length:Int)),(11,.int .i64 (q.1.1:Int))]) (fun q=>_::_::q.1.2.2) (fun _=>_) (fun q=>ps.length - q.1.1) ⟨(0,.slice none 0 0,[]),by simp,aB_.nil _ _⟩ ?_;rintro ⟨⟨i,sv,Hr⟩,hk⟩;dsimp only at hk;refine bC_ [(2,zp_ d 0),(5,sv),(9,.slice ad ps.length cap),(10,.int .i64 (ps.length:Int)),(11,.int .i64 (i:Int))] zl ?_;refine Zj 2 (fun E=>?_) fun E=>?_
 ·obtain rfl:i=ps.length:=by omega
  obtain⟨g,cp,cur,rfl,rfl,J,Q,L,G⟩:=hk.2.some zr_;rw[List.take_length]at G;refine Zz 9 ?_;refine i_ (wn_ (ps.map Con.operand) [32,97,110,100,32] zC_ (oL_ (n:=ps.length) (by rw[G,List.flatMap_map])) (by simpa using J) zH_ hl) rfl (@List.perm_append_comm _ [_,_] _) zf rfl fun _=>?_;refine Zz 4 ?_;exact af_ Tryz.results233 () (gi_ rfl (by rw[Con.text_eq];simp[Con.kind,Con.parts,x])) (.refl _) zt
 have e:i<ps.length:=by omega
 obtain⟨p,I⟩:∃ p,ps[i]? = some p:=⟨_,List.getElem?_eq_getElem e⟩;have B:p∈ps:=List.mem_of_getElem? I;refine Zz 10 ?_;refine e_ (U_ ai_ L_ rfl rfl (fun v _ h=>aE_ (n:=5) Con.cells_len zx_ (((Con.mem_iff (.mk k nm lo hi ad cap ps) v).1 h.1).1) I) zr_ zz_) rfl ?_;refine e_ (au_ (ad:=ad) (us:=p.cells) aU_ L_ rfl (fun v _ h=>((Con.mem_iff (.mk k nm lo hi ad cap ps) v).1 h.1).1) (Con.cells_len _) (p_ Con.cells_len I)) rfl (D_ ch_ rfl fun P=>fC_ 0 L_ rfl rfl rfl rfl (Zz 5 ?_));refine e_ (du_ 0 aU_ L_ rfl rfl) rfl (i_ (C p B) rfl (.refl _) (fun v _ h=>⟨Con.mem_part (c:=(.mk k nm lo hi ad cap ps)) h.1 B,h.2.1,h.2.2.1,trivial⟩) rfl fun _=>R_ m_ H_ aK_ rfl rfl rfl rfl rfl rfl fun M=>?_);refine ay_ elt39 hk.2 rfl rfl (@List.perm_append_comm _ [_,_,_,_] _) rfl (be_ 0 rfl) (kz_ rfl) zG_ zr_ rfl fun A H y=>?_;refine u_ (@List.perm_append_comm _ _ [_,_,_,_]) (Zz 8 ?_);exact y_ ⟨(i+1,A,H),e,by rw[Con.take_snoc I,List.flatMap_append];exact y⟩ zH_ zl (F:=[_,_]) (@List.perm_append_comm _ [_,_] _) zh
theorem xX_ (c:Con) (m n:Nat) (e:c.kind=6) (x:c.parts.length=1) (hl:c.text.length≤140737488355328) (d:∀ p∈c.parts,Tri Tryz.prog 251 #[prV m n,p.val] [] [p.memF,prF m,bV_] (fun _:Unit=>str p.operand) (fun _=>[]) (fun _=>[])):Tri Tryz.prog 234 #[prV m n,c.val] [] [c.memF,prF m,bV_] (fun _:Unit=>str c.text) (fun _=>[]) (fun _=>[]):=by
  obtain⟨k,nm,lo,hi,ad,cap,ps⟩:=c;simp only[Con.kind,Con.parts]at e x d;obtain⟨p,rfl⟩:=List.length_eq_one_iff.1 x;have y:[p][0]? = some p:=rfl;have q:p∈[p]:=List.mem_singleton.2 rfl;have A:(Con.mk k nm lo hi ad cap [p]).text=Lib.join [[115,111,109,101],nm,p.operand] [32]:=by rw[Con.text_eq];simp[Con.kind,Con.parts,Con.name,e]
  rw[A]at hl;refine j_ Tryz.func234 rfl rfl Tryz.ntmps234 rfl fun B=>?_;refine Zz 2 ?_;refine aa_ rfl rfl fun C=>aa_ rfl rfl fun E=>Zz 5 ?_
  refine G_ 4 [0,1,2,3,4,5,6] zk zs (Zz 5 ?_);refine z_ rfl (U_ ai_ L_ rfl rfl (fun v _ h=>aE_ (n:=5) Con.cells_len zx_ (((Con.mem_iff (.mk k nm lo hi ad cap [p]) v).1 h.1).1) y) zr_ zz_) rfl ?_;refine z_ rfl (au_ (ad:=ad) (us:=p.cells) aU_ L_ rfl (fun v _ h=>((Con.mem_iff (.mk k nm lo hi ad cap [p]) v).1 h.1).1) (Con.cells_len _) (p_ Con.cells_len y)) rfl (aZ_ (n_ 7 rfl zk (i_ (d p q) rfl (.refl _) (fun v _ h=>⟨Con.mem_part (c:=.mk k nm lo hi ad cap [p]) h.1 q,h.2.1,h.2.2.1,trivial⟩) rfl fun _=>Zz 3 ?_)));refine n_ 8 rfl zk (R_ m_ H_ aK_ rfl rfl rfl rfl rfl rfl fun F=>Zz 3 ?_);refine n_ 9 rfl zk (i_ (ta_ [[115,111,109,101],nm,p.operand] rfl (tg_ _) zC_ hl) rfl (.refl _) zf rfl fun _=>Zz 3 ?_);refine G_ 0 [10] zk zs (Zz 5 ?_);exact af_ Tryz.results234 () (gi_ rfl A.symm) (.refl _) zt
theorem xW_ (c:Con) (m n:Nat) (d:c.kind=7) (q:c.ok) (hl:c.text.length≤140737488355328):Tri Tryz.prog 235 #[prV m n,c.val] [] [c.memF,prF m,bV_] (fun _:Unit=>str c.text) (fun _=>[]) (fun _=>[]):=by
  obtain⟨k,nm,lo,hi,ad,cap,ps⟩:=c;simp only[Con.kind]at d;obtain⟨_,_,_,v,e,h,x,_⟩:=q;have y:(Con.mk k nm lo hi ad cap ps).text=Lib.join [nm,[105,110],Lib.itoa lo,[116,111],Lib.itoa hi] [32]:=by rw[Con.text_eq];simp[Con.kind,Con.name,Con.lo,Con.hi,d]
  rw[y]at hl;refine j_ Tryz.func235 rfl rfl Tryz.ntmps235 rfl fun A=>?_;refine Zz 2 ?_;refine aa_ rfl rfl fun E=>aa_ rfl rfl fun B=>Zz 5 ?_
  refine G_ 5 [0,1,2,3,5,6] zk zs (Zz 7 ?_);refine n_ 4 rfl zk (i_ (wp_ _ v e) rfl (.refl _) zf rfl fun _=>Zz 3 ?_);refine n_ 7 rfl zk (i_ (wp_ _ h x) rfl (.refl _) zf rfl fun _=>Zz 3 ?_);refine n_ 8 rfl zk (R_ m_ H_ aK_ rfl rfl rfl rfl rfl rfl fun C=>Zz 3 ?_);refine n_ 9 rfl zk (i_ (ta_ [nm,[105,110],Lib.itoa lo,[116,111],Lib.itoa hi] rfl (tg_ _) zC_ hl) rfl (.refl _) zf rfl fun _=>Zz 3 ?_);refine G_ 0 [10] zk zs (Zz 5 ?_);exact af_ Tryz.results235 () (gi_ rfl y.symm) (.refl _) zt
theorem xV_ (m n:Nat):∀ (d:Nat) (c:Con),c.sz≤d→c.sz≤64→c.ok→c.fine→Tri Tryz.prog 214 #[prV m n,c.val] [] [c.memF,prF m,bV_] (fun _:Unit=>str c.text) (fun _=>[]) (fun _=>[]):=by
 intro d
 induction d with
 | zero=>intro c h;have:=c.sz_pos;omega
 | succ d ih =>
   intro c E B e x;have F:=Con.fields x;have hl:=Con.text_len _ c (Nat.le_refl _) e x
   have k:∀ p∈c.parts,Tri Tryz.prog 251 #[prV m n,p.val] [] [p.memF,prF m,bV_] (fun _:Unit=>str p.operand) (fun _=>[]) (fun _=>[]):=fun p q=>by
     have G:=Con.sz_part q;have hl:=Con.text_len _ p (Nat.le_refl _) (Con.ok_part e q) (Con.fine_part x q);exact si_ p m n zr_ (ih p zr_ zr_ (Con.ok_part e q) (Con.fine_part x q))
   have A:=F.k1;have y:=F.k7;have hm:=F.mo;have v:=F.le;have hk:c.kind=1∨c.kind=2∨c.kind=3∨c.kind=4∨c.kind=5∨c.kind=6∨c.kind=7:=by omega
   rcases hk with hk|hk|hk|hk|hk|hk|hk
   · exact gw_ c m n zaa_ (pr_top c m n hk)
   · exact gw_ c m n zaa_ (uf_ c m n hk)
   · exact gw_ c m n zaa_ (vO_ c m n hk)
   · exact gw_ c m n zaa_ (sj_ c m n hk F.nm)
   · have C:c.text=Lib.join (c.parts.map Con.operand) [32,97,110,100,32]:=by rw[Con.text_eq];simp[hk]
     rw[hk]at hm v;simp[nd,eU_]at hm v
     exact gw_ c m n zaa_ (pr_and c m n hk ⟨by omega,by omega⟩ (by rw[← C];omega) k)
   · rw[hk]at hm v
     simp[nd,eU_]at hm v
     exact gw_ c m n zaa_ (xX_ c m n hk zr_ zr_ k)
   · exact gw_ c m n zaa_ (xW_ c m n hk e zr_)
theorem qP_ (c:Con) (h:c.ok):Tri Tryz.prog 191 #[c.val] [] [c.memF,bV_] (fun _:Unit=>.tuple #[str c.textN,.int .i64 c.check]) (fun _=>[]) (fun _=>[]):=by
 obtain⟨k,nm,lo,hi,ad,cap,ps⟩:=c;refine j_ Tryz.func191 rfl rfl Tryz.ntmps191 rfl fun v=>?_;refine Zz 2 ?_;refine aa_ rfl rfl fun x=>Zz 8 ?_
 refine i_ (fn_ (.mk k nm lo hi ad cap ps) h) rfl (.refl _) zf rfl fun _=>Zj 6 (fun d=>?_) fun d=>?_
 ·obtain⟨e,m⟩:=Con.check_zero d
  refine Zz 7 ?_;refine G_ 4 [1] zk zs (Zz 2 ?_);refine n_ 0 rfl zk (i_ (pG_) rfl (.refl _) zt rfl fun q=>Zz 3 ?_);refine n_ 2 rfl zk (i_ (xV_ q.1 q.2 _ (.mk k nm lo hi ad cap ps) (Nat.le_refl _) m h e) rfl (.refl _) zf rfl fun _=>Zz 3 ?_);refine G_ 0 [3,4] zk zs (Zz 6 ?_);exact lg_ Tryz.results191 () rfl rfl (by simp[Con.textN, *]<;>rfl) (.refl _) zt
 refine Zz 11 ?_;exact lg_ Tryz.results191 () rfl rfl (by simp[Con.textN, *]<;>rfl) (.refl _) zt
theorem yi_ (c:Con) (d:c.ok):Tri Tryz.prog 156 #[c.val] [] [c.memF,bV_] (fun _:Unit=>str c.textN) (fun _=>[]) (fun _=>[]):=by
  obtain⟨k,nm,lo,hi,ad,cap,ps⟩:=c;refine j_ Tryz.func156 rfl rfl Tryz.ntmps156 rfl fun e=>?_;refine Zz 2 ?_;refine aa_ rfl rfl fun m=>Zz 6 ?_
  refine i_ (qP_ (.mk k nm lo hi ad cap ps) d) rfl (.refl _) (fun v _ h=>h) rfl fun _=>Zz 14 ?_
  exact af_ Tryz.results156 () rfl (.refl _) zt
theorem gg_ (s:Str) (e:s.length≤140737488351232) :
    Fn0 Tryz.prog 112 #[str s] (str ([123]++s++[125])):=by
  refine j_ Tryz.func112 rfl rfl Tryz.ntmps112 rfl fun d=>?_;refine Zz 8 ?_;refine e_ (eK_ rfl rfl zH_) rfl ?_;refine e_ (eK_ rfl rfl zH_) rfl ?_;refine Zz 4 ?_;exact af_ Tryz.results112 () rfl (.refl _) zt
theorem gp_ {G:Prop} (h:G:=by
 exact af_ Tryz.results111 () (gi_ rfl (by unfold Con.atom;simp only[Con.kind,Con.name]at *;simp[*])) (.refl _) zt):G:=h
theorem dM_ (c:Con) (d:c.ok):Tri Tryz.prog 111 #[c.val] [] [c.memF,bV_] (fun _:Unit=>str c.atom) (fun _=>[]) (fun _=>[]):=by
 obtain⟨k,nm,lo,hi,ad,cap,ps⟩:=c;refine j_ Tryz.func111 rfl rfl Tryz.ntmps111 rfl fun y=>?_;refine Zz 2 ?_;refine aa_ rfl rfl fun A=>Zj 13 (fun e=>?_) fun e=>?_
 ·refine Zj 6 (fun m=>?_) fun m=>?_
  ·refine Zj 6 (fun x=>?_) fun x=>?_
   ·refine Zj 6 (fun q=>?_) fun q=>?_
    ·refine Zz 9 ?_
     refine i_ (yi_ (.mk k nm lo hi ad cap ps) d) rfl (.refl _) (fun v _ h=>h) rfl fun _=>?_;refine e_ (eK_ rfl rfl zay_) rfl ?_;refine e_ (eK_ rfl rfl zay_) rfl ?_;refine Zz 4 ?_;exact gp_
    refine Zz 8 ?_;refine i_ (gg_ nm (Con.ok_name d)) rfl (.refl _) zt rfl fun _=>Zz 4 ?_
    exact gp_
   refine Zz 12 ?_;exact gp_
  refine Zz 10 ?_;exact gp_
 refine Zz 10 ?_;exact gp_
theorem eqPc (p q:Pc) (w:World):(Op.equalIn 10000 174 p.val q.val).run Tryz.prog w=.ok (decide (p=q)) w:=by
  have h:=run_equalIn_struct (P:=Tryz.prog) w 9999 174 p.cells.toArray q.cells.toArray (by simp only[Program.fieldsOf,fx_]) Tryz.stoodInHeld174;refine h.trans ?_;rw[← Pc.eqb_eq];simp only[Program.fieldsOf,fx_];exact ca_ rfl bd_ rfl rfl (eqI s_ w) (ca_ rfl ab_ rfl rfl (eqS aT_ w) (ca_ rfl ab_ rfl rfl (eqS aT_ w) (ca_ rfl ab_ rfl rfl (eqS aT_ w) (ca_ rfl ab_ rfl rfl (eqS aT_ w) (ca_ rfl ab_ rfl rfl (eqS aT_ w) (ca_ rfl ab_ rfl rfl (eqS aT_ w) (ca_ rfl bd_ rfl rfl (eqI s_ w) (ca_ rfl bd_ rfl rfl (eqI s_ w) (ca_ rfl bd_ rfl rfl (eqI s_ w) (kJ_ w))))))))))
theorem eqFc (p q:Fc) (w:World):(Op.equalIn 10000 36 p.val q.val).run Tryz.prog w=.ok (decide (p=q)) w:=by
  have h:=run_equalIn_struct (P:=Tryz.prog) w 9999 36 p.cells.toArray q.cells.toArray (by simp only[Program.fieldsOf,Tryz.underlying36]) Tryz.stoodInHeld36;refine h.trans ?_;rw[← Fc.eqb_eq];simp only[Program.fieldsOf,Tryz.underlying36];exact ca_ rfl bd_ rfl rfl (eqI s_ w) (ca_ rfl ab_ rfl rfl (eqS aT_ w) (ca_ rfl ab_ rfl rfl (eqS aT_ w) (ca_ rfl ab_ rfl rfl (eqS aT_ w) (ca_ rfl bd_ rfl rfl (eqI s_ w) (ca_ rfl bd_ rfl rfl (eqI s_ w) (kJ_ w))))))
theorem tv_ (p:Pc):ht_ Tryz.prog 174 p.val:=fun e w=>by
 have hi:∀ (n:Int) (w:World),(Instr.checkKey e (9998+1) 3 (.int .i64 n)).run Tryz.prog w=.ok () w:=fun n w=>MapKept.run_checkKey (d:=.int .i64) s_ zaG_ e 9998
 have h:∀ (n:Str) (w:World),(Instr.checkKey e (9998+1) 9 (str n)).run Tryz.prog w=.ok () w:=fun n w=>MapKept.run_checkKey (d:=.string) aT_ zav_ e 9998
 refine ckF (n:=9999) fx_ fun f k=>?_;simp only[List.mem_cons,List.not_mem_nil,or_false]at k;rcases k with rfl|rfl|rfl|rfl|rfl|rfl|rfl|rfl|rfl|rfl
 ·exact⟨rfl,bd_,_,rfl,hi _⟩
 ·exact⟨rfl,ab_,_,rfl,h _⟩
 ·exact⟨rfl,ab_,_,rfl,h _⟩
 ·exact⟨rfl,ab_,_,rfl,h _⟩
 ·exact⟨rfl,ab_,_,rfl,h _⟩
 ·exact⟨rfl,ab_,_,rfl,h _⟩
 ·exact⟨rfl,ab_,_,rfl,h _⟩
 ·exact⟨rfl,bd_,_,rfl,hi _⟩
 ·exact⟨rfl,bd_,_,rfl,hi _⟩
 exact⟨rfl,bd_,_,rfl,hi _⟩
theorem wH_:Elt Tryz.prog 63 174 10 128:=iV_ Tryz.underlying63 (z:=.agg (Pc.mk 0 [] [] [] [] [] [] 0 0 0).cells.toArray) zw_ rfl zx_
theorem dy_:ij_ Tryz.prog 174 [(0,1),(1,1),(2,1),(3,1),(4,1),(5,1),(6,1),(7,1),(8,1),(9,1)] [.int .i64 0,str [],str [],str [],str [],str [],str [],.int .i64 0,.int .i64 0,.int .i64 0]:=⟨_,W_,cK_,fun w=>by simp[av_,H_]⟩
theorem fb_:ij_ Tryz.prog 36 [(0,1),(1,1),(2,1),(3,1),(4,1),(5,1)] [.int .i64 0,str [],str [],str [],.int .i64 0,.int .i64 0]:=⟨_,ae_,df_,fun w=>by simp[av_,H_]⟩
structure CS where
  sv:Value
  bm:Nat
  es:Array MapEntry
  clk:Nat
  Hr:Hp
def gV_ (kb:Nat) (frm:Int) (q:CS):Hp:=(kb,.cells #[.int .i64 frm,q.sv,.map (some q.bm)] 114 (0,0))::(q.bm,.map q.es q.clk)::q.Hr
structure CInv (l:List Pc) (q:CS):Prop where
  row:aB_ 174 10 q.sv l.length (l.flatMap Pc.cells) q.Hr
  keys:q.es.toList.map (·.key)=l.map Pc.val
  vals:∀ x∈q.es.toList,x.val=.bool true
theorem CInv.push {l:List Pc} {p:Pc} {sv e:Value} {bm clk:Nat} {es:Array MapEntry} {Hr d:Hp} (h:CInv l ⟨sv,bm,es,clk,Hr⟩) (m:aB_ 174 10 e (l.length+1) (l.flatMap Pc.cells++p.cells) d):CInv (l++[p]) ⟨e,bm,es.push ⟨p.val,.bool true,clk⟩,clk+1,d⟩:=by
 refine⟨?_,?_,?_⟩
 ·simpa [List.flatMap_append] using m
 ·have:=h.keys
  simp only at this;simp[this]
 intro x k;simp only[Array.toList_push,List.mem_append,List.mem_singleton]at k;rcases k with k|rfl
 ·exact h.vals x k
 rfl
theorem et_ (p:Pc) {kb C:Nat} (frm:Int) (l:List Pc) (q:CS) (B:CInv l q) (N:l.length≤100000) :
    Tri Tryz.prog 110 #[zp_ kb 0,.slice (some ⟨C,0,none⟩) 1 1] ((C,.cells p.cells.toArray 174 (0,0))::gV_ kb frm q) [] (fun _:{K:CS // CInv (ins frm l p) K}=>.tuple #[]) (fun K=>gV_ kb frm K.1) (fun _=>[]):=by
  obtain⟨k,a,b,c,r,s,t,lo,hi,f⟩:=p;obtain⟨sv,bm,es,clk,Hr⟩:=q;refine j_ Tryz.func110 rfl rfl Tryz.ntmps110 rfl fun P=>?_;refine Zz 8 ?_;refine bC_ [(0,zp_ kb 0),(6,.slice (some ⟨C,0,none⟩) 1 1),(7,.int .i64 1),(8,.int .i64 ((0:Nat):Int))] zl ?_;refine cc_ (ι:={x:Nat×CS // (x.1=0∧x.2=⟨sv,bm,es,clk,Hr⟩)∨(x.1=1∧CInv (ins frm l ⟨k,a,b,c,r,s,t,lo,hi,f⟩) x.2)}) (fun x=>[(0,zp_ kb 0),(6,.slice (some ⟨C,0,none⟩) 1 1),(7,.int .i64 1),(8,.int .i64 (x.1.1:Int))]) (fun x=>_::gV_ kb frm x.1.2) (fun _=>_) (fun x=>1 - x.1.1) ⟨(0,⟨sv,bm,es,clk,Hr⟩),.inl ⟨rfl,rfl⟩⟩ ?_;rintro ⟨⟨i,L⟩,hk⟩;dsimp only at hk;rcases hk with⟨rfl,rfl⟩|⟨rfl,O⟩
  · skip
    refine bC_ [(0,zp_ kb 0),(6,.slice (some ⟨C,0,none⟩) 1 1),(7,.int .i64 1),(8,.int .i64 0)] zl ?_;refine Zj 2 (fun e=>?_) fun e=>?_
    · skip
      exact absurd zx_ e
    · skip
      refine Zz 10 ?_;refine e_ (fv_ I_ J_ rfl rfl zx_ zx_) rfl (Zz 1 ?_);refine D_ W_ rfl fun H=>x_ 0 J_ rfl rfl rfl rfl rfl rfl (Zz 9 ?_)
      refine x_ 0 av_ rfl rfl rfl rfl rfl rfl (Zz 3 ?_)
      by_cases hm:(⟨k,a,b,c,r,s,t,lo,hi,frm⟩:Pc)∈l
      · skip
        obtain⟨j,J⟩:=(hT_ fx_ (fun p q w=>eqPc p q w) (⟨k,a,b,c,r,s,t,lo,hi,frm⟩:Pc) l es.toList B.keys).2 hm B.vals;refine Zz 1 ?_;refine G_ 0 [0,1,2,3,4,5,6] zk zs (Zz 5 ?_);refine z_ rfl (fs_ jA_ rfl rfl (fun v h _=>(h.own _ (List.mem_of_getElem? (i:=3) rfl)).1) (tv_ (⟨k,a,b,c,r,s,t,lo,hi,frm⟩:Pc)) J) rfl (z_ rfl (aJ_ rfl) rfl (Zz 11 ?_));exact y_ ⟨(1,⟨sv,bm,es,clk,Hr⟩),.inr ⟨rfl,by simp only[ins,if_pos hm];exact B⟩⟩ Nat.zero_lt_one zl (F:=[_]) (@List.perm_append_comm _ [_] _) zh
      · skip
        have J:=(hT_ fx_ (fun p q w=>eqPc p q w) (⟨k,a,b,c,r,s,t,lo,hi,frm⟩:Pc) l es.toList B.keys).1 hm;refine Zz 1 ?_;refine G_ 0 [0,1,2,3,4,5,6] zk zs (Zz 5 ?_);refine z_ rfl (eZ_ jA_ aM_ rfl rfl (fun v h _=>(h.own _ (List.mem_of_getElem? (i:=3) rfl)).1) (tv_ (⟨k,a,b,c,r,s,t,lo,hi,frm⟩:Pc)) J) rfl (z_ rfl (aJ_ rfl) rfl (Zz 5 ?_));refine ao_ [(H,.cells #[.int .i64 k,str a,str b,str c,str r,str s,str t,.int .i64 lo,.int .i64 hi,.int .i64 frm] 174 (0,0)),(C,.cells #[.int .i64 k,str a,str b,str c,str r,str s,str t,.int .i64 lo,.int .i64 hi,.int .i64 f] 174 (0,0)),(kb,.cells #[.int .i64 frm,sv,.map (some bm)] 114 (0,0))] zk ?_;refine G_ 1 [0,1,2,3,4] zk (fun _ a b=>⟨Vw.sat.sub a,b⟩) (Zz 6 ?_);refine n_ 5 rfl zk (bi_ 3 (.inr rfl) jA_ rfl rfl rfl rfl (tv_ (⟨k,a,b,c,r,s,t,lo,hi,frm⟩:Pc)) J (Zz 2 ?_));refine w_ (fun _ a b=>⟨Vw.sat.sub a,b⟩) (Zz 2 ?_);refine ao_ [(H,.cells #[.int .i64 k,str a,str b,str c,str r,str s,str t,.int .i64 lo,.int .i64 hi,.int .i64 frm] 174 (0,0))] zk ?_;refine G_ 6 [0,1,2,3,5] zk (fun _ a b=>⟨Vw.sat.sub a,b⟩) (Zz 6 ?_);refine ct_ 4 6 rfl rfl zk ?_ ?_
        · skip
          refine Zz 3 ?_;refine w_ (fun _ a b=>⟨Vw.sat.sub a,b⟩) (n_ 6 rfl zk (R_ I_ J_ W_ rfl rfl rfl rfl rfl rfl fun M=>Zz 2 ?_));refine w_ (fun _ a b=>⟨Vw.sat.sub a.tail,b⟩) (n_ 7 rfl zk (ay_ (news:=Pc.cells (⟨k,a,b,c,r,s,t,lo,hi,frm⟩:Pc)) wH_ B.row rfl rfl (@List.perm_append_comm _ [_,_,_,_,_] _) rfl (be_ 0 rfl) (kz_ rfl) zG_ zr_ rfl fun E I d=>?_));refine u_ (@List.perm_append_comm _ _ [_,_,_,_,_]) ?_;obtain⟨A,y,m,rfl,rfl,G⟩:=d.some zr_;refine Zz 2 ?_;refine w_ (fun _ a b=>⟨Vw.sat.sub a.tail,b⟩) (G_ 1 [8,9] zk (fun _ a b=>⟨Vw.sat.sub a.tail,b⟩) (Zz 3 ?_));refine n_ 10 rfl zk (x_ 3 zf_ rfl rfl rfl rfl rfl rfl (Zz 2 ?_));refine w_ (fun _ a b=>⟨Vw.sat.sub a.tail,b⟩) (Zz 7 ?_);exact y_ ⟨(1,⟨.slice (some ⟨A,0,none⟩) (l.length+1) y,bm,es.push ⟨Pc.val (⟨k,a,b,c,r,s,t,lo,hi,frm⟩:Pc),.bool true,clk⟩,clk+1,[(A,.cells m 174 (0,0))]⟩),.inr ⟨rfl,by simp only[ins,if_neg hm];exact B.push d⟩⟩ Nat.zero_lt_one zl (F:=[_,_]) (@List.perm_append_comm _ [_,_] _) zh
        · skip
          refine R_ I_ J_ W_ rfl rfl rfl rfl rfl rfl fun M=>Zz 2 ?_
          refine w_ (fun _ a b=>⟨Vw.sat.sub a.tail,b⟩) (n_ 4 rfl zk (Zz 3 ?_));refine w_ (fun _ a b=>⟨Vw.sat.sub a.tail,b⟩) (n_ 7 rfl zk (ay_ (news:=Pc.cells (⟨k,a,b,c,r,s,t,lo,hi,frm⟩:Pc)) wH_ B.row rfl rfl (@List.perm_append_comm _ [_,_,_,_,_] _) rfl (be_ 0 rfl) (kz_ rfl) zG_ zr_ rfl fun E I d=>?_));refine u_ (@List.perm_append_comm _ _ [_,_,_,_,_]) ?_;obtain⟨A,y,m,rfl,rfl,G⟩:=d.some zr_;refine Zz 2 ?_;refine w_ (fun _ a b=>⟨Vw.sat.sub a.tail,b⟩) (G_ 1 [8,9] zk (fun _ a b=>⟨Vw.sat.sub a.tail,b⟩) (Zz 3 ?_));refine n_ 10 rfl zk (x_ 3 zf_ rfl rfl rfl rfl rfl rfl (Zz 2 ?_));refine w_ (fun _ a b=>⟨Vw.sat.sub a.tail,b⟩) (Zz 7 ?_);exact y_ ⟨(1,⟨.slice (some ⟨A,0,none⟩) (l.length+1) y,bm,es.push ⟨Pc.val (⟨k,a,b,c,r,s,t,lo,hi,frm⟩:Pc),.bool true,clk⟩,clk+1,[(A,.cells m 174 (0,0))]⟩),.inr ⟨rfl,by simp only[ins,if_neg hm];exact B.push d⟩⟩ Nat.zero_lt_one zl (F:=[_,_]) (@List.perm_append_comm _ [_,_] _) zh
  · skip
    refine bC_ [(0,zp_ kb 0),(6,.slice (some ⟨C,0,none⟩) 1 1),(7,.int .i64 1),(8,.int .i64 1)] zl ?_;refine Zj 2 (fun e=>?_) fun e=>?_
    · skip
      refine Zz 6 ?_;exact cB_ Tryz.results110 ⟨L,O⟩ rfl (F:=[_]) (@List.perm_append_comm _ [_] _) zt
    · skip
      exact absurd e zx_
theorem xz_:ij_ Tryz.prog 114 [(0,1),(1,1),(2,1)] [.int .i64 0,.slice none 0 0,.map none]:=⟨_,Tryz.zeroValue114,cp_,fun w=>by simp[av_,zf_,Tryz.sizeOf112]⟩
theorem nM_ (frm:Int):Tri Tryz.prog 69 #[.int .i64 frm] [] [] (fun x:Nat×Nat=>zp_ x.1 0) (fun x=>gV_ x.1 frm ⟨.slice none 0 0,x.2,#[],0,[]⟩) (fun _=>[]):=by
  refine j_ Tryz.func69 rfl rfl Tryz.ntmps69 rfl fun h=>?_;refine Zz 8 ?_;refine bn_ rfl fun d=>e_ (K_ xz_ rfl rfl) rfl (aa_ rfl rfl fun e=>Zz 4 ?_)
  exact af_ Tryz.results69 (e,d) rfl (F:=[]) (.refl _) zt
def kF (b kb:Nat):Fct:=ck_ b (.cells [zp_ kb 0].toArray 109 (0,0))
def lFn (b bk:Nat):Value:=.func (.func 154) #[] #[zp_ b 0,zp_ bk 0]
def lF (b bk:Nat):Fct:=ck_ b (.cells [lFn b bk].toArray 145 (0,0))
def rFn (b bk:Nat):Value:=.func (.func 155) #[] #[zp_ bk 0,zp_ b 0]
def rcF (b bk:Nat):Fct:=ck_ b (.cells [rFn b bk].toArray 145 (0,0))
theorem xG_ (kb:Nat):Tri Tryz.prog 109 #[zp_ kb 0] [] [] (fun x:Nat×Nat×Nat=>.tuple #[lFn x.2.1 x.1,rFn x.2.2 x.1]) (fun _=>[]) (fun x=>[kF x.1 kb,lF x.2.1 x.1,rcF x.2.2 x.1]):=by
  refine j_ Tryz.func109 rfl rfl Tryz.ntmps109 rfl fun y=>?_;refine Zz 2 ?_;refine aa_ rfl rfl fun d=>D_ Tryz.zeroValue145 rfl fun k=>D_ Tryz.zeroValue145 rfl fun e=>Zz 4 ?_
  refine e_ (bT_ rfl rfl) rfl (x_ 1 Tryz.sizeOf145 rfl rfl rfl rfl rfl rfl (Zz 4 ?_));refine e_ (bT_ rfl rfl) rfl (x_ 0 Tryz.sizeOf145 rfl rfl rfl rfl rfl rfl (Zz 4 ?_));refine G_ 2 [0,1] zk zs (Zz 3 ?_);refine n_ 2 rfl zk (x_ 1 Tryz.sizeOf145 rfl rfl rfl rfl rfl rfl (Zz 3 ?_));refine n_ 3 rfl zk (x_ 0 Tryz.sizeOf145 rfl rfl rfl rfl rfl rfl (Zz 6 ?_));refine iM_ 0 rfl ?_;refine iM_ 0 rfl ?_;refine iM_ 0 rfl ?_;exact retG (d,k,e) (fun a v m q h=>xS_ Tryz.results109 ka_ ka_ m rfl rfl (nK_ (cs:=[lFn k d]) 0 h.2.1 rfl) (nK_ (cs:=[rFn e d]) 0 h.2.2.1 rfl)) (F:=[]) (.refl _) zf
theorem Con.mem_tail {c:Con} (d:c.ok) {v:Vw} (h:c.mem v):bz_ v (sad c.ad c.cap 1 5) ((c.parts.drop 1).flatMap Con.cells):=by
  have:=((Con.mem_iff c v).1 h).1.slice Con.cells_len (Con.ok_len d).1 1 c.parts.length;rwa [List.take_of_length_le zC_]at this
theorem Con.drop_at {ps:List Con} {p:Con} {i:Nat} (d:ps[i]? = some p):ps.drop i=p::ps.drop (i+1):=by
  have hi:=(List.getElem?_eq_some_iff.1 d).1;rw[List.getElem?_eq_getElem hi]at d;simp only[Option.some.injEq]at d;subst d;exact List.drop_eq_getElem_cons hi
theorem Con.szs_append:∀ (d ys:List Con),Con.sz.szs (d++ys)=Con.sz.szs d+Con.sz.szs ys
  | [],ys=>by simp[Con.sz.szs]
  | x::d,ys=>by simp only[List.cons_append,Con.sz.szs,Con.szs_append d ys];omega
theorem Con.sz_at {ps:List Con} {p:Con} {i:Nat} (d:ps[i]? = some p):Con.sz.szs (ps.take i)+p.sz≤Con.sz.szs ps:=by
  have e:Con.sz.szs ps=Con.sz.szs (ps.take i++(p::ps.drop (i+1))):=by rw[← Con.drop_at d,List.take_append_drop]
  rw[e,Con.szs_append];simp only[Con.sz.szs];omega
theorem Con.lefts_len (frm:Int) (ps:List Con) (i:Nat) (l:List Pc):(Con.leftP.lefts frm (ps.take i) l).length+(ps.take i).length≤l.length+2*Con.sz.szs (ps.take i):=by
  generalize ps.take i=qs
  induction qs generalizing l with
  | nil=>simp[Con.leftP.lefts]
  | cons p qs ih =>
    have d:=Con.leftP_len frm _ p (Nat.le_refl _) l;have e:=ih (p.leftP frm l);simp only[Con.leftP.lefts,Con.sz.szs,List.length_cons];omega
theorem Con.rights_len (frm:Int) (a:Str) (ps:List Con) (i:Nat) (l:List Pc):(Con.rightP.rights frm a (ps.take i) l).length≤l.length+2*Con.sz.szs (ps.take i):=by
  generalize ps.take i=qs
  induction qs generalizing l with
  | nil=>simp[Con.rightP.rights]
  | cons p qs ih =>
    have e:=bL_ frm l ⟨1,a,[],p.atom,[],[],[],0,0,0⟩;have h:=Con.rightP_len frm _ p (Nat.le_refl _) (ins frm l ⟨1,a,[],p.atom,[],[],[],0,0,0⟩);have d:=ih (p.rightP frm (ins frm l ⟨1,a,[],p.atom,[],[],[],0,0,0⟩));simp only[Con.rightP.rights,Con.sz.szs];omega
theorem Con.headD_atom {ps:List Con} {p:Con} (d:ps[0]? = some p):(ps.map Con.atom).headD []=p.atom:=by cases ps<;>simp_all
theorem Con.leftP5 {c:Con} (h:c.kind=5) (frm:Int) (l:List Pc):c.leftP frm l=Con.andP frm c (c.parts.drop 1) 1 ((c.parts.map Con.atom).headD []) (Con.leftP.lefts frm c.parts l):=by rw[Con.leftP_eq,if_pos h]
theorem Con.leftP6 {c p:Con} (h:c.kind=6) (d:c.parts=[p]) (frm:Int) (l:List Pc):c.leftP frm l=ins frm (p.leftP frm l) ⟨4,p.atom,[],c.atom,c.name,[],[],0,0,0⟩:=by
  rw[Con.leftP_eq,if_neg zr_,if_pos h,d];rfl
theorem Con.leftP7 {c:Con} (h:c.kind=7) (frm:Int) (l:List Pc):c.leftP frm l=ins frm l ⟨9,[],[],c.atom,c.name,[],[],c.lo,c.hi,0⟩:=by rw[Con.leftP_eq,if_neg zr_,if_neg zr_,if_pos h]
theorem Con.leftP0 {c:Con} (d:c.kind≠5) (h:c.kind≠6) (e:c.kind≠7) (frm:Int) (l:List Pc):c.leftP frm l=l:=by rw[Con.leftP_eq,if_neg d,if_neg h,if_neg e]
theorem Con.rightP5 {c:Con} (h:c.kind=5) (frm:Int) (l:List Pc):c.rightP frm l=Con.rightP.rights frm c.atom c.parts l:=by rw[Con.rightP_eq,if_pos h]
theorem Con.rightP6 {c p:Con} (h:c.kind=6) (d:c.parts=[p]) (frm:Int) (l:List Pc):c.rightP frm l=p.rightP frm (ins frm l ⟨3,c.atom,[],p.atom,c.name,[],[],0,0,0⟩):=by
  rw[Con.rightP_eq,if_neg zr_,if_pos h,d];rfl
theorem Con.rightP7 {c:Con} (h:c.kind=7) (frm:Int) (l:List Pc):c.rightP frm l=ins frm l ⟨8,c.atom,[],[],c.name,[],[],c.lo,c.hi,0⟩:=by rw[Con.rightP_eq,if_neg zr_,if_neg zr_,if_pos h]
theorem Con.rightP0 {c:Con} (d:c.kind≠5) (h:c.kind≠6) (e:c.kind≠7) (frm:Int) (l:List Pc):c.rightP frm l=l:=by rw[Con.rightP_eq,if_neg d,if_neg h,if_neg e]
end Go.Proofs.YtpbnmnfdgckaiaaGreatDoor
