/-
  Part of the proof of the law CanonReaches over this seat: the small logic, the data, the contracts of functions (no condition).
-/
import Derived.Test.YtpbnmnfdgckaiaaGreatDoorQCanonReaches3
import Derived.Test.YtpbnmnfdgckaiaaGreatDoorQCanonReaches2
import Derived.Test.YtpbnmnfdgckaiaaGreatDoorProg
set_option linter.unusedVariables false
set_option linter.unusedSimpArgs false
set_option linter.unusedSectionVars false
set_option maxHeartbeats 1000000
namespace Go.Proofs.YtpbnmnfdgckaiaaGreatDoor
open Go Go.Sx Go.Proofs
attribute [local irreducible] Code.wp wpList wpAnyH
open Go.Vs
theorem mB_ {G:Prop} (h:G:=by
 refine Zz 7 ?_;exact met ⟨rfl,rfl,rfl,rfl,rfl,rfl,rfl,rfl,rfl,rfl,rfl,rfl,rfl,rfl,(n_ rfl (jaf I)),trivial⟩):G:=h
theorem jt_ {G:Prop} (h:G:=by
 exact met ⟨rfl,rfl,rfl,rfl,rfl,rfl,rfl,rfl,rfl,rfl,rfl,rfl,(n_ rfl (jot d)),trivial⟩):G:=h
theorem hj_ {G:Prop} (h:G:=by
 exact met ⟨rfl,rfl,rfl,rfl,rfl,rfl,rfl,rfl,rfl,rfl,rfl,rfl,rfl,(n_ rfl (jot d)),trivial⟩):G:=h
theorem et_ {G:Prop} (h:G:=by
 exact ae_ Tryz.results102 () (cf_ rfl (by unfold Con.fieldErr;simp only[Con.kind,Con.parts,Con.name,Con.lo,Con.hi];simp only[Q];repeat (first|rfl|exact (if_pos zs_).symm|(rw[if_pos zW_];first|done|rfl)|(rw[if_neg zW_])))) (.refl _) zt):G:=h
theorem of_ (c:Con) (a0:c.ok):Tri Tryz.prog 102 #[c.val] [] [ci_] (fun _:Unit=>.int .i64 c.fieldErr) (fun _=>[]) (fun _=>[]):=by
 obtain⟨k,nm,lo,hi,ad,cap,ps⟩:=c;have a3:=Con.ok_len a0;simp only[Con.parts,Con.cap]at a3;refine i_ Tryz.func102 rfl rfl Tryz.ntmps102 rfl fun v_1=>?_;refine Zz 2 ?_;refine aa_ rfl rfl fun C=>Zz 8 ?_
 refine B_ (dc_ rfl rfl) rfl fun r_1 M=>Zz 1 ?_
 refine ai_ 4 ((decide (k<1))||(decide (7<k))) (fun r=>[(0,.agg (Con.cells (Con.mk k nm lo hi ad cap ps)).toArray),(1,zp_ C 0),(2,.int .i64 0),(11,.bool r)]) ?_ fun r_2 R=>?_
 ·cases r_1
  ·have d:=M
   replace M:=zdf M;try dsimp only[Con.kind,Con.parts,Con.name,Con.lo,Con.hi,Con.cap,Con.ad]at M
   refine Zz 5 ?_;refine B_ (dA_ rfl rfl) rfl fun a2 J=>Zz 3 ?_
   exact met (zm (jof d J))
  have d:=M;replace M:=zdt M;try dsimp only[Con.kind,Con.parts,Con.name,Con.lo,Con.hi,Con.cap,Con.ad]at M
  refine Zz 6 ?_;exact met ⟨rfl,rfl,rfl,(n_ rfl (jot d)),trivial⟩
 refine Zz 2 ?_;cases r_2
 ·simp at R
  try dsimp only[Con.kind,Con.parts,Con.name,Con.lo,Con.hi,Con.cap,Con.ad]at R
  obtain⟨x,hx⟩:∃ x,eC_[k.toNat]? = some x:=⟨_,List.getElem?_eq_getElem (show k.toNat<8 by omega)⟩;have Q:nd k=x:=by simp[nd,hx]
  obtain⟨E,L,K,xb⟩:=x;refine Zz 7 ?_;refine e_ (dZ_ Tryz.runUnderlying201 Tryz.sizeOf200 rfl rfl zba_ (by show k<(8:Int);omega)) rfl ?_;refine e_ (aj_ (ad:=some ⟨1,0,none⟩) (k:=k.toNat*4) (us:=to_ (E,L,K,xb)) Tryz.isAgg200 Tryz.sizeOf200 rfl (fun v _ h=>h.1.1) (kQ_ _) (fun j y hj=>by rw[la_ to_ 4 kQ_ eC_ k.toNat j _ hx (by have:=(List.getElem?_eq_some_iff.1 hj).1;rwa [kQ_]at this)];exact hj)) rfl ?_;refine G_ Tryz.zeroValue200 rfl fun F=>u_ 0 Tryz.sizeOf200 rfl rfl rfl rfl rfl rfl (Zz 10 ?_)
  refine B_ (dc_ rfl rfl) rfl fun a2 J=>Zz 1 ?_
  refine ai_ 7 ((decide ((ps.length:Int)<L))||(decide (K<(ps.length:Int)))) (fun r=>[(0,.agg (Con.cells (Con.mk k nm lo hi ad cap ps)).toArray),(1,zp_ C 0),(2,.int .i64 0),(11,.bool false),(12,zp_ C 0),(13,.int .i64 k),(14,.pointer (some (rad (some ⟨1,0,none⟩) (k.toNat*4)))),(15,.agg #[.int .i64 E,.int .i64 L,.int .i64 K,.bool xb]),(3,zp_ F 0),(29,.bool r)]) ?_ fun r_4 N=>?_
  ·cases a2
   ·have d:=J
    replace J:=zdf J;try dsimp only[Con.kind,Con.parts,Con.name,Con.lo,Con.hi,Con.cap,Con.ad]at J
    refine Zz 11 ?_;refine B_ (dA_ rfl rfl) rfl fun r_5 O=>Zz 3 ?_
    exact met (zm (jof d O))
   have d:=J;replace J:=zdt J;try dsimp only[Con.kind,Con.parts,Con.name,Con.lo,Con.hi,Con.cap,Con.ad]at J
   refine Zz 9 ?_;exact met ⟨rfl,rfl,rfl,rfl,rfl,rfl,rfl,rfl,rfl,(n_ rfl (jot d)),trivial⟩
  refine Zz 1 ?_;refine ai_ 9 ((((decide ((ps.length:Int)<L))||(decide (K<(ps.length:Int)))))||(((E==0)&&(nm != [])))) (fun r=>[(0,.agg (Con.cells (Con.mk k nm lo hi ad cap ps)).toArray),(1,zp_ C 0),(2,.int .i64 0),(11,.bool false),(12,zp_ C 0),(13,.int .i64 k),(14,.pointer (some (rad (some ⟨1,0,none⟩) (k.toNat*4)))),(15,.agg #[.int .i64 E,.int .i64 L,.int .i64 K,.bool xb]),(3,zp_ F 0),(39,.bool r)]) ?_ fun r_5 O=>?_
  ·cases r_4
   ·have d:=N
    simp at N
    try dsimp only[Con.kind,Con.parts,Con.name,Con.lo,Con.hi,Con.cap,Con.ad]at N
    refine Zz 5 ?_;refine B_ (bt_ rfl rfl) rfl fun V e=>Zz 2 ?_
    refine ai_ 4 ((E==0)&&(nm != [])) (fun r=>[(0,.agg (Con.cells (Con.mk k nm lo hi ad cap ps)).toArray),(1,zp_ C 0),(2,.int .i64 0),(11,.bool false),(12,zp_ C 0),(13,.int .i64 k),(14,.pointer (some (rad (some ⟨1,0,none⟩) (k.toNat*4)))),(15,.agg #[.int .i64 E,.int .i64 L,.int .i64 K,.bool xb]),(3,zp_ F 0),(30,.bool false),(38,.bool r)]) ?_ fun X H=>?_
    ·cases V
     ·have I:=e
      replace e:=znb e;try dsimp only[Con.kind,Con.parts,Con.name,Con.lo,Con.hi,Con.cap,Con.ad]at e
      refine Zz 7 ?_;exact met ⟨rfl,rfl,rfl,rfl,rfl,rfl,rfl,rfl,rfl,rfl,(n_ rfl (jaf I)),trivial⟩
     have I:=e;replace e:=zeb e;try dsimp only[Con.kind,Con.parts,Con.name,Con.lo,Con.hi,Con.cap,Con.ad]at e
     refine Zz 5 ?_;refine B_ (cJ_ rfl rfl) rfl fun U q=>Zz 4 ?_
     exact met ⟨rfl,rfl,rfl,rfl,rfl,rfl,rfl,rfl,rfl,rfl,(n_ rfl (jat I q)),trivial⟩
    refine Zz 3 ?_;exact met (zm (jof d H))
   have d:=N;simp at N
   try dsimp only[Con.kind,Con.parts,Con.name,Con.lo,Con.hi,Con.cap,Con.ad]at N
   refine Zz 11 ?_;exact met ⟨rfl,rfl,rfl,rfl,rfl,rfl,rfl,rfl,rfl,(n_ rfl (jot d)),trivial⟩
  refine Zz 2 ?_;cases r_5
  ·simp at O
   try dsimp only[Con.kind,Con.parts,Con.name,Con.lo,Con.hi,Con.cap,Con.ad]at O
   refine Zz 10 ?_;cases xb
   ·try dsimp only[Con.kind,Con.parts,Con.name,Con.lo,Con.hi,Con.cap,Con.ad]at hxb
    refine Zz 5 ?_;refine B_ (ce_ rfl rfl) rfl fun V e=>Zz 1 ?_
    refine ai_ 4 ((lo != 0)||(hi != 0)) (fun r=>[(0,.agg (Con.cells (Con.mk k nm lo hi ad cap ps)).toArray),(1,zp_ C 0),(2,.int .i64 0),(11,.bool false),(12,zp_ C 0),(13,.int .i64 k),(14,.pointer (some (rad (some ⟨1,0,none⟩) (k.toNat*4)))),(15,.agg #[.int .i64 E,.int .i64 L,.int .i64 K,.bool false]),(3,zp_ F 0),(39,.bool false),(40,zp_ F 3),(41,.bool false),(64,.bool r)]) ?_ fun X H=>?_
    ·cases V
     ·have d:=e
      replace e:=fn_ e;try dsimp only[Con.kind,Con.parts,Con.name,Con.lo,Con.hi,Con.cap,Con.ad]at e
      refine Zz 5 ?_;refine B_ (ce_ rfl rfl) rfl fun U q=>Zz 3 ?_
      exact met (zm (jof d q))
     have d:=e;replace e:=fl_ e;try dsimp only[Con.kind,Con.parts,Con.name,Con.lo,Con.hi,Con.cap,Con.ad]at e
     refine Zz 6 ?_;exact jt_
    refine Zz 2 ?_;cases X
    ·simp at H
     try dsimp only[Con.kind,Con.parts,Con.name,Con.lo,Con.hi,Con.cap,Con.ad]at H
     refine Zz 8 ?_;refine B_ (bt_ rfl rfl) rfl fun U q=>Zz 1 ?_
     refine ai_ 4 ((E==0)||(bh_ nm)) (fun r=>[(0,.agg (Con.cells (Con.mk k nm lo hi ad cap ps)).toArray),(1,zp_ C 0),(2,.int .i64 0),(11,.bool false),(12,zp_ C 0),(13,.int .i64 k),(14,.pointer (some (rad (some ⟨1,0,none⟩) (k.toNat*4)))),(15,.agg #[.int .i64 E,.int .i64 L,.int .i64 K,.bool false]),(3,zp_ F 0),(39,.bool false),(40,zp_ F 3),(41,.bool false),(64,.bool false),(72,.bool r)]) ?_ fun W B=>?_
     ·cases U
      ·have d:=q
       replace q:=znb q;try dsimp only[Con.kind,Con.parts,Con.name,Con.lo,Con.hi,Con.cap,Con.ad]at q
       refine Zz 5 ?_;refine T_ (gY_ nm) rfl (.refl _) zt rfl fun S A=>Zz 3 ?_
       exact met (zm (jof d A))
      have d:=q;replace q:=zeb q;try dsimp only[Con.kind,Con.parts,Con.name,Con.lo,Con.hi,Con.cap,Con.ad]at q
      refine Zz 6 ?_;exact hj_
     refine Zz 1 ?_;refine ai_ 9 ((((E==0)||(bh_ nm)))||(((E==2)&&(cV_ nm)))) (fun r=>[(0,.agg (Con.cells (Con.mk k nm lo hi ad cap ps)).toArray),(1,zp_ C 0),(2,.int .i64 0),(11,.bool false),(12,zp_ C 0),(13,.int .i64 k),(14,.pointer (some (rad (some ⟨1,0,none⟩) (k.toNat*4)))),(15,.agg #[.int .i64 E,.int .i64 L,.int .i64 K,.bool false]),(3,zp_ F 0),(39,.bool false),(40,zp_ F 3),(41,.bool false),(64,.bool false),(82,.bool r)]) ?_ fun S A=>?_
     ·cases W
      ·have d:=B
       simp at B
       try dsimp only[Con.kind,Con.parts,Con.name,Con.lo,Con.hi,Con.cap,Con.ad]at B
       refine Zz 5 ?_;refine B_ (bt_ rfl rfl) rfl fun T m=>Zz 2 ?_
       refine ai_ 4 ((E==2)&&(cV_ nm)) (fun r=>[(0,.agg (Con.cells (Con.mk k nm lo hi ad cap ps)).toArray),(1,zp_ C 0),(2,.int .i64 0),(11,.bool false),(12,zp_ C 0),(13,.int .i64 k),(14,.pointer (some (rad (some ⟨1,0,none⟩) (k.toNat*4)))),(15,.agg #[.int .i64 E,.int .i64 L,.int .i64 K,.bool false]),(3,zp_ F 0),(39,.bool false),(40,zp_ F 3),(41,.bool false),(64,.bool false),(73,.bool false),(81,.bool r)]) ?_ fun Y G=>?_
       ·cases T
        ·have I:=m
         replace m:=znb m;try dsimp only[Con.kind,Con.parts,Con.name,Con.lo,Con.hi,Con.cap,Con.ad]at m
         exact mB_
        have I:=m;replace m:=zeb m;try dsimp only[Con.kind,Con.parts,Con.name,Con.lo,Con.hi,Con.cap,Con.ad]at m
        refine Zz 5 ?_;refine T_ (hA_ nm (Con.ok_name a0)) rfl (.refl _) zt rfl fun a1 P=>Zz 4 ?_
        exact met ⟨rfl,rfl,rfl,rfl,rfl,rfl,rfl,rfl,rfl,rfl,rfl,rfl,rfl,rfl,(n_ rfl (jat I P)),trivial⟩
       refine Zz 3 ?_;exact met (zm (jof d G))
      have d:=B;simp at B
      try dsimp only[Con.kind,Con.parts,Con.name,Con.lo,Con.hi,Con.cap,Con.ad]at B
      refine Zz 11 ?_;exact hj_
     refine Zz 2 ?_;cases S
     ·simp at A
      try dsimp only[Con.kind,Con.parts,Con.name,Con.lo,Con.hi,Con.cap,Con.ad]at A
      refine Zz 9 ?_;exact et_
     simp at A
     try dsimp only[Con.kind,Con.parts,Con.name,Con.lo,Con.hi,Con.cap,Con.ad]at A
     refine Zz 7 ?_;exact et_
    simp at H
    try dsimp only[Con.kind,Con.parts,Con.name,Con.lo,Con.hi,Con.cap,Con.ad]at H
    refine Zz 7 ?_;exact et_
   try dsimp only[Con.kind,Con.parts,Con.name,Con.lo,Con.hi,Con.cap,Con.ad]at hxb
   refine Zz 5 ?_;refine B_ (dc_ rfl rfl) rfl fun V e=>Zz 1 ?_
   refine ai_ 6 ((decide (lo<(-1099511627776)))||(decide (hi<lo))) (fun r=>[(0,.agg (Con.cells (Con.mk k nm lo hi ad cap ps)).toArray),(1,zp_ C 0),(2,.int .i64 0),(11,.bool false),(12,zp_ C 0),(13,.int .i64 k),(14,.pointer (some (rad (some ⟨1,0,none⟩) (k.toNat*4)))),(15,.agg #[.int .i64 E,.int .i64 L,.int .i64 K,.bool true]),(3,zp_ F 0),(39,.bool false),(40,zp_ F 3),(41,.bool true),(51,.bool r)]) ?_ fun X H=>?_
   ·cases V
    ·have d:=e
     replace e:=zdf e;try dsimp only[Con.kind,Con.parts,Con.name,Con.lo,Con.hi,Con.cap,Con.ad]at e
     refine Zz 9 ?_;refine B_ (dA_ rfl rfl) rfl fun U q=>Zz 3 ?_
     exact met (zm (jof d q))
    have d:=e;replace e:=zdt e;try dsimp only[Con.kind,Con.parts,Con.name,Con.lo,Con.hi,Con.cap,Con.ad]at e
    refine Zz 8 ?_;exact jt_
   refine Zz 1 ?_;refine ai_ 4 ((((decide (lo<(-1099511627776)))||(decide (hi<lo))))||(decide (1099511627776<hi))) (fun r=>[(0,.agg (Con.cells (Con.mk k nm lo hi ad cap ps)).toArray),(1,zp_ C 0),(2,.int .i64 0),(11,.bool false),(12,zp_ C 0),(13,.int .i64 k),(14,.pointer (some (rad (some ⟨1,0,none⟩) (k.toNat*4)))),(15,.agg #[.int .i64 E,.int .i64 L,.int .i64 K,.bool true]),(3,zp_ F 0),(39,.bool false),(40,zp_ F 3),(41,.bool true),(56,.bool r)]) ?_ fun U q=>?_
   ·cases X
    ·have d:=H
     simp at H
     try dsimp only[Con.kind,Con.parts,Con.name,Con.lo,Con.hi,Con.cap,Con.ad]at H
     refine Zz 5 ?_;refine B_ (dA_ rfl rfl) rfl fun W B=>Zz 3 ?_
     exact met (zm (jof d B))
    have d:=H;simp at H
    try dsimp only[Con.kind,Con.parts,Con.name,Con.lo,Con.hi,Con.cap,Con.ad]at H
    refine Zz 6 ?_;exact jt_
   refine Zz 2 ?_;cases U
   ·simp at q
    try dsimp only[Con.kind,Con.parts,Con.name,Con.lo,Con.hi,Con.cap,Con.ad]at q
    refine Zz 8 ?_;refine B_ (bt_ rfl rfl) rfl fun W B=>Zz 1 ?_
    refine ai_ 4 ((E==0)||(bh_ nm)) (fun r=>[(0,.agg (Con.cells (Con.mk k nm lo hi ad cap ps)).toArray),(1,zp_ C 0),(2,.int .i64 0),(11,.bool false),(12,zp_ C 0),(13,.int .i64 k),(14,.pointer (some (rad (some ⟨1,0,none⟩) (k.toNat*4)))),(15,.agg #[.int .i64 E,.int .i64 L,.int .i64 K,.bool true]),(3,zp_ F 0),(39,.bool false),(40,zp_ F 3),(41,.bool true),(56,.bool false),(72,.bool r)]) ?_ fun S A=>?_
    ·cases W
     ·have d:=B
      replace B:=znb B;try dsimp only[Con.kind,Con.parts,Con.name,Con.lo,Con.hi,Con.cap,Con.ad]at B
      refine Zz 5 ?_;refine T_ (gY_ nm) rfl (.refl _) zt rfl fun T m=>Zz 3 ?_
      exact met (zm (jof d m))
     have d:=B;replace B:=zeb B;try dsimp only[Con.kind,Con.parts,Con.name,Con.lo,Con.hi,Con.cap,Con.ad]at B
     refine Zz 6 ?_;exact hj_
    refine Zz 1 ?_;refine ai_ 9 ((((E==0)||(bh_ nm)))||(((E==2)&&(cV_ nm)))) (fun r=>[(0,.agg (Con.cells (Con.mk k nm lo hi ad cap ps)).toArray),(1,zp_ C 0),(2,.int .i64 0),(11,.bool false),(12,zp_ C 0),(13,.int .i64 k),(14,.pointer (some (rad (some ⟨1,0,none⟩) (k.toNat*4)))),(15,.agg #[.int .i64 E,.int .i64 L,.int .i64 K,.bool true]),(3,zp_ F 0),(39,.bool false),(40,zp_ F 3),(41,.bool true),(56,.bool false),(82,.bool r)]) ?_ fun T m=>?_
    ·cases S
     ·have d:=A
      simp at A
      try dsimp only[Con.kind,Con.parts,Con.name,Con.lo,Con.hi,Con.cap,Con.ad]at A
      refine Zz 5 ?_;refine B_ (bt_ rfl rfl) rfl fun Y G=>Zz 2 ?_
      refine ai_ 4 ((E==2)&&(cV_ nm)) (fun r=>[(0,.agg (Con.cells (Con.mk k nm lo hi ad cap ps)).toArray),(1,zp_ C 0),(2,.int .i64 0),(11,.bool false),(12,zp_ C 0),(13,.int .i64 k),(14,.pointer (some (rad (some ⟨1,0,none⟩) (k.toNat*4)))),(15,.agg #[.int .i64 E,.int .i64 L,.int .i64 K,.bool true]),(3,zp_ F 0),(39,.bool false),(40,zp_ F 3),(41,.bool true),(56,.bool false),(73,.bool false),(81,.bool r)]) ?_ fun a1 P=>?_
      ·cases Y
       ·have I:=G
        replace G:=znb G;try dsimp only[Con.kind,Con.parts,Con.name,Con.lo,Con.hi,Con.cap,Con.ad]at G
        exact mB_
       have I:=G;replace G:=zeb G;try dsimp only[Con.kind,Con.parts,Con.name,Con.lo,Con.hi,Con.cap,Con.ad]at G
       refine Zz 5 ?_;refine T_ (hA_ nm (Con.ok_name a0)) rfl (.refl _) zt rfl fun r_14 Z=>Zz 4 ?_
       exact met ⟨rfl,rfl,rfl,rfl,rfl,rfl,rfl,rfl,rfl,rfl,rfl,rfl,rfl,rfl,(n_ rfl (jat I Z)),trivial⟩
      refine Zz 3 ?_;exact met (zm (jof d P))
     have d:=A;simp at A
     try dsimp only[Con.kind,Con.parts,Con.name,Con.lo,Con.hi,Con.cap,Con.ad]at A
     refine Zz 11 ?_;exact hj_
    refine Zz 2 ?_;cases T
    ·simp at m
     try dsimp only[Con.kind,Con.parts,Con.name,Con.lo,Con.hi,Con.cap,Con.ad]at m
     refine Zz 9 ?_;exact et_
    simp at m
    try dsimp only[Con.kind,Con.parts,Con.name,Con.lo,Con.hi,Con.cap,Con.ad]at m
    refine Zz 7 ?_;exact et_
   simp at q
   try dsimp only[Con.kind,Con.parts,Con.name,Con.lo,Con.hi,Con.cap,Con.ad]at q
   refine Zz 7 ?_;exact et_
  simp at O
  try dsimp only[Con.kind,Con.parts,Con.name,Con.lo,Con.hi,Con.cap,Con.ad]at O
  refine Zz 7 ?_;exact et_
 simp at R
 try dsimp only[Con.kind,Con.parts,Con.name,Con.lo,Con.hi,Con.cap,Con.ad]at R
 refine Zz 7 ?_;exact ae_ Tryz.results102 () (cf_ rfl (by unfold Con.fieldErr;simp only[Con.kind,Con.parts,Con.name,Con.lo,Con.hi];repeat (first|rfl|exact (if_pos zs_).symm|(rw[if_pos zW_];first|done|rfl)|(rw[if_neg zW_])))) (.refl _) zt
theorem xn_ {σ τ:Type} {l:Nat} {H:σ→Hp} {N:τ→Hp} {stp:Con→σ→σ ⊕ τ} {E:List Fct} {good:Con→Prop} (G:∀ c p,good c→p∈c.parts→good p)
    (S:∀ s x,x.ok→good x→jg_ Tryz.prog l x.val (H s) (x.memF::E) (fun _:Unit=>.bool (stp x s).isLeft) (fun _=>nF_ H N (stp x s)) (fun _=>[])) :
    ∀ (m:Nat) (c:Con),c.sz≤m→c.ok→good c→∀ (s:σ) r,Con.fold stp c s=r →
    Tri Tryz.prog 149 #[c.val,.func (.yield l) #[] #[]] (H s) (c.memF::E) (fun _:Unit=>.bool r.isLeft) (fun _=>nF_ H N r) (fun _=>[]):=by
  intro m
  induction m with
  | zero=>intro c h;have:=c.sz_pos;omega
  | succ m ih =>
    intro c hm e Q s r P;obtain⟨k,nm,lo,hi,ad,cap,ps⟩:=c;have J:=Con.ok_len e;simp only[Con.parts,Con.cap]at J;have L:∀ p∈ps,good p:=fun p B=>G _ p Q B
    refine i_ Tryz.func149 rfl rfl Tryz.ntmps149 rfl fun T=>?_;refine Zz 2 ?_;refine aa_ rfl rfl fun y=>Zz 5 ?_
    rcases hfc:stp (.mk k nm lo hi ad cap ps) s with C|K
    · skip
      refine ka_ (ι:=Unit) (fun _=>[(1,.func (.yield l) #[] #[]),(2,zp_ y 0),(10,.bool false)]) (fun _=>(y,.cells (Con.mk k nm lo hi ad cap ps).cells.toArray 40 (0,0))::H C) (fun _=>[(Con.mk k nm lo hi ad cap ps).memF]++E) ?_ fun _=>?_
      · skip
        refine aI_ ?_;refine Q_ da_ (al_ rfl) rfl rfl ?_;refine Q_ da_ (dg_ (c:=.mk k nm lo hi ad cap ps) 0 aH_ J_ rfl rfl) rfl rfl ?_;refine hy_ (S s _ e Q) rfl rfl (@List.perm_append_comm _ [_] _) (fun v _ h=>h) rfl fun _=>?_;rw[hfc];refine Q_ da_ (aw_ rfl) rfl rfl ?_;refine bp_ ?_;refine dt_ rfl ?_;exact fm_ () zl (F:=[]) zaf_ zh
      · skip
        refine Zz 14 ?_;refine bs_ [(1,.func (.yield l) #[] #[]),(12,.slice ad ps.length cap),(13,.int .i64 (ps.length:Int)),(14,.int .i64 ((0:Nat):Int))] zl ?_;refine bR_ (ι:={q:Nat×σ // q.1≤ps.length∧Con.fold.folds stp (ps.take q.1) C=.inl q.2}) (fun i=>[(1,.func (.yield l) #[] #[]),(12,.slice ad ps.length cap),(13,.int .i64 (ps.length:Int)),(14,.int .i64 (i.1.1:Int))]) (fun i=>_::H i.1.2) (fun _=>_) (fun i=>ps.length - i.1.1) ⟨(0,C),by simp[Con.fold.folds]⟩ ?_;rintro ⟨⟨i,A⟩,hk⟩;refine bs_ [(1,.func (.yield l) #[] #[]),(12,.slice ad ps.length cap),(13,.int .i64 (ps.length:Int)),(14,.int .i64 (i:Int))] zl ?_;refine Zj 2 (fun M=>?_) fun M=>?_
        · skip
          refine Zz 12 ?_;obtain rfl:r=.inl A:=by rw[← P,Con.fold_eq,hfc];exact Con.folds_yes (show ps.length≤i by omega) hk.2
          exact ae_ Tryz.results149 () rfl (@List.perm_append_comm _ [_] _) zt
        · skip
          have I:i<ps.length:=by omega
          obtain⟨p,B⟩:∃ p,ps[i]? = some p:=⟨_,List.getElem?_eq_getElem I⟩;have d:p∈ps:=List.mem_of_getElem? B;refine Zz 10 ?_;refine e_ (S_ ad_ J_ rfl rfl (fun v _ h=>Con.row_addr (c:=.mk k nm lo hi ad cap ps) h.1 B) zs_ zs_) rfl (e_ (aj_ (us:=p.cells) aH_ J_ rfl (fun v _ h=>((Con.mem_iff (.mk k nm lo hi ad cap ps) v).1 h.1).1) p.cells_len (Con.part_cells (c:=.mk k nm lo hi ad cap ps) (i:=i) B)) rfl (G_ bU_ rfl fun U=>fi_ 0 J_ rfl rfl rfl rfl (Zz 3 ?_)));rcases hfp:Con.fold stp p A with O|R
          · skip
            refine aG_ (e_ (dg_ 0 aH_ J_ rfl rfl) rfl (Zz 1 ?_));refine g_ (ih p zaP_ (Con.ok_part (c:=.mk k nm lo hi ad cap ps) e d) (L p d) A _ hfp) rfl (@List.perm_append_comm _ [_,_] _) (fun v _ h=>⟨Con.mem_part (c:=.mk k nm lo hi ad cap ps) h.1 d,h.2⟩) rfl fun _=>?_;refine y_ (@List.perm_append_comm _ _ [_,_]) (e_ (aw_ rfl) rfl (Zz 10 ?_));exact w_ ⟨(i+1,O),I,Con.folds_step B hk.2 hfp⟩ zF_ zl (F:=[_]) (@List.perm_append_comm _ [_] _) zh
          · skip
            refine aG_ (e_ (dg_ 0 aH_ J_ rfl rfl) rfl (Zz 1 ?_));refine g_ (ih p zaP_ (Con.ok_part (c:=.mk k nm lo hi ad cap ps) e d) (L p d) A _ hfp) rfl (@List.perm_append_comm _ [_,_] _) (fun v _ h=>⟨Con.mem_part (c:=.mk k nm lo hi ad cap ps) h.1 d,h.2⟩) rfl fun _=>?_;refine y_ (@List.perm_append_comm _ _ [_,_]) (e_ (aw_ rfl) rfl (Zz 9 ?_));obtain rfl:r=.inr R:=by rw[← P,Con.fold_eq,hfc];exact Con.folds_no B hk.2 hfp
            exact ae_ Tryz.results149 () rfl (@List.perm_append_comm _ [_,_] _) zt
    · skip
      refine ka_ (ι:=Unit) (fun _=>[(1,.func (.yield l) #[] #[]),(2,zp_ y 0),(10,.bool true)]) (fun _=>(y,.cells (Con.mk k nm lo hi ad cap ps).cells.toArray 40 (0,0))::N K) (fun _=>[(Con.mk k nm lo hi ad cap ps).memF]++E) ?_ fun _=>?_
      · skip
        refine aI_ ?_;refine Q_ da_ (al_ rfl) rfl rfl ?_;refine Q_ da_ (dg_ (c:=.mk k nm lo hi ad cap ps) 0 aH_ J_ rfl rfl) rfl rfl ?_;refine hy_ (S s _ e Q) rfl rfl (@List.perm_append_comm _ [_] _) (fun v _ h=>h) rfl fun _=>?_;rw[hfc];refine Q_ da_ (aw_ rfl) rfl rfl ?_;refine bp_ ?_;refine dt_ rfl ?_;exact fm_ () zl (F:=[]) zaf_ zh
      · skip
        refine Zz 8 ?_;obtain rfl:r=.inr K:=by rw[← P,Con.fold_eq,hfc]
        exact ae_ Tryz.results149 () rfl (@List.perm_append_comm _ [_] _) zt
theorem vc_ (c:Con) :
    Tri Tryz.prog 101 #[c.val] [] [] (fun b:Nat=>.func (.func 148) #[] #[zp_ b 0]) (fun b=>[(b,.cells c.cells.toArray 40 (0,0))]) (fun _=>[]):=by
  refine i_ Tryz.func101 rfl rfl Tryz.ntmps101 rfl fun e=>?_;refine Zz 2 ?_;refine aa_ rfl rfl fun d=>Zz 5 ?_
  refine e_ (bK_ rfl rfl) rfl (Zz 4 ?_);exact ae_ Tryz.results101 d rfl (F:=[]) (.refl _) zt
theorem ta_ {σ τ:Type} {l b:Nat} {e:σ→Hp} {m:τ→Hp} {stp:Con→σ→σ ⊕ τ} {E:List Fct} {good:Con→Prop} (d:∀ c p,good c→p∈c.parts→good p)
    (y:∀ s x,x.ok→good x→jg_ Tryz.prog l x.val (e s) (x.memF::E) (fun _:Unit=>.bool (stp x s).isLeft) (fun _=>nF_ e m (stp x s)) (fun _=>[]))
    (c:Con) (k:c.ok) (q:good c) (s:σ) :
    Tri Tryz.prog 148 #[.func (.yield l) #[] #[],zp_ b 0] ((b,.cells c.cells.toArray 40 (0,0))::e s) (c.memF::E) (fun _:Unit=>.tuple #[]) (fun _=>(b,.cells c.cells.toArray 40 (0,0))::nF_ e m (Con.fold stp c s)) (fun _=>[]):=by
  refine i_ Tryz.func148 rfl rfl Tryz.ntmps148 rfl fun A=>?_;refine aG_ (e_ (dg_ (c:=c) 0 aH_ J_ rfl rfl) rfl (Zz 1 ?_));refine g_ (xn_ d y _ c (Nat.le_refl _) k q s _ rfl) rfl (@List.perm_append_comm _ [_] _) (fun v _ h=>h) rfl fun _=>Zz 2 ?_
  exact co_ Tryz.results148 () rfl (F:=[]) zaf_ zt
theorem mA_ {G:Prop} (h:G:=by
 exact zg_ (G:=[_,_,_]) () (fun a v y q=>by rw[← M];exact qB_ 1 Tryz.results63 Tryz.isAgg29 rfl rfl a v y q) (gx_ (i:=3) rfl) ⟨_,.refl _⟩ rfl):G:=h
theorem eS_ (c:Con) (I:c.ok):Tri Tryz.prog 63 #[c.val] [] [c.memF,ci_] (fun _:Unit=>.int .i64 c.check) (fun _=>[]) (fun _=>[]):=by
 obtain⟨k,nm,lo,hi,ad,cap,ps⟩:=c;refine hp_ Tryz.func63 rfl rfl Tryz.ntmps63 rfl fun H=>?_;refine Zz 2 ?_;refine aa_ rfl rfl fun T=>G_ Tryz.zeroValue29 rfl fun e=>Zz 4 ?_
 refine G_ kE_ rfl fun L=>u_ 0 ak_ rfl rfl rfl rfl rfl rfl (Zz 6 ?_)
 refine nk_ 0 (fits_c _ (.mk k nm lo hi ad cap ps) (Nat.le_refl _) I 0 0 L zs_ zs_ _ rfl) rfl rfl zf rfl fun K B=>e_ (aw_ rfl) rfl (Zz 2 ?_)
 cases K
 ·try dsimp only[Con.kind,Con.parts,Con.name,Con.lo,Con.hi,Con.cap,Con.ad]at B
  refine Zz 3 ?_;refine u_ 1 Tryz.sizeOf29 rfl rfl rfl rfl rfl rfl (Zz 3 ?_);exact retM () (fun a v y q _=>by rw[qB_ 1 Tryz.results63 Tryz.isAgg29 rfl rfl a v y q];simp[Con.check, *]) (.refl _) zt
 try dsimp only[Con.kind,Con.parts,Con.name,Con.lo,Con.hi,Con.cap,Con.ad]at B
 refine Zz 7 ?_;refine g_ (vc_ (.mk k nm lo hi ad cap ps)) rfl (.refl _) zt rfl fun b=>Zz 3 ?_
 refine bs_ [(2,zp_ e 0),(10,.func (.func 148) #[] #[zp_ b 0])] zl ?_;refine dK_ (H':=[_,_]) (F:=[_,_]) (.cons _ (.swap _ _ _)) zh ?_;refine tY_ (α:={c:Con // c.ok}) (xv:=fun x=>x.1.val) (good:=fun _=>True) (stp:=fun x=>Con.chk x.1) (Γx:=fun x=>[x.1.memF,ci_]) (Γi:=[Con.memF (.mk k nm lo hi ad cap ps),ci_]) (Hj:=fun _:Unit=>[(e,.cells #[.int .i64 0] 29 (0,0))]) (Hx:=fun t:Int=>[(e,.cells #[.int .i64 t] 29 (0,0))]) (Hc:=[(b,.cells (Con.mk k nm lo hi ad cap ps).cells.toArray 40 (0,0))]) (caps:=[zp_ b 0]) () (Con.fold Con.chk (.mk k nm lo hi ad cap ps) ()) rfl (.refl _) (fun v _ h=>h) ?_ ?_ ?_ ?_
 ·rintro l D U S P O V J C s ⟨x,Q⟩ -
  refine mC_ (ι:=Nat) (Hj:=fun _:Unit=>[(e,.cells #[.int .i64 0] 29 (0,0))]) (Hx:=fun t:Int=>[(e,.cells #[.int .i64 t] 29 (0,0))]) (s:=s) (res:=Con.chk x s) (Γ:=[x.memF,ci_]) (fun m=>[(2,zp_ e 0),(4,zp_ m 0)]) (fun m=>[(m,.cells x.cells.toArray 40 (0,0)),(e,.cells #[.int .i64 0] 29 (0,0))]) S P O V rfl ?_ ?_
  ·intro n H N W
   rw[J];refine aI_ ?_;refine nl_ (L_ _) bU_ rfl fun m=>?_;refine qO_ (L_ _) 0 J_ rfl rfl rfl rfl ?_;refine bp_ ?_;refine dt_ rfl ?_;exact fm_ m zl (F:=[]) zal_ zh
  intro n H N W m;rw[C];refine eu_ ?_;refine cY_ ?_;refine aI_ ?_;refine Q_ (L_ _) (dg_ 0 aH_ J_ rfl rfl) rfl rfl ?_;refine ut_ (of_ x Q) rfl (.refl _) zf rfl fun _=>?_;refine Q_ (L_ _) (az_ rfl) rfl rfl ?_;refine bp_ ?_;refine cd_ rfl ?_;refine cY_ ?_;refine aI_ ?_;refine Q_ (L_ _) (al_ rfl) rfl rfl ?_;refine ur_ (L_ _) (ce_ rfl rfl) rfl rfl fun R d=>?_;refine bp_ ?_;refine cd_ rfl ?_;cases R
  ·replace d:=fn_ d
   try dsimp only[Con.kind,Con.parts,Con.name,Con.lo,Con.hi,Con.cap,Con.ad]at d
   refine lI_ rfl ?_;refine ov_ ?_;refine dt_ rfl ?_;exact fS_ () (by simp[Con.chk, *]) (G:=[_]) (@List.perm_append_comm _ [_] _)
  replace d:=fl_ d;try dsimp only[Con.kind,Con.parts,Con.name,Con.lo,Con.hi,Con.cap,Con.ad]at d
  refine fw_ rfl ?_;refine cY_ ?_;refine aI_ ?_;refine Q_ (L_ _) (al_ rfl) rfl rfl ?_;refine gc_ (L_ _) 1 Tryz.sizeOf29 rfl rfl rfl rfl rfl rfl ?_;refine bp_ ?_;refine cd_ rfl ?_;refine mX_ ?_;exact ub_ x.fieldErr (by simp[Con.chk, *]) (G:=[_]) (@List.perm_append_comm _ [_] _)
 ·intro l Z Y X
  exact ta_ (E:=[ci_]) (good:=fun _=>True) (fun _ _ _ _=>trivial) (fun s x Q _=>X s ⟨x,Q⟩ trivial) _ I trivial ()
 ·intro s A D l r
  rw[Con.fold_chk _ _ (Nat.le_refl _)]at A;refine cd_ rfl ?_;refine cY_ ?_;refine aI_ ?_;refine gc_ da_ 1 Tryz.sizeOf29 rfl rfl rfl rfl rfl rfl ?_;refine bp_ ?_;refine cd_ rfl ?_;refine mX_ ?_;have M:(0:Int)=(Con.mk k nm lo hi ad cap ps).check:=by unfold Con.check;rw[if_pos zA_];split at A;(rename_i h;exact h.symm);cases A
  exact mA_
 intro t A D l r;rw[Con.fold_chk _ _ (Nat.le_refl _)]at A;have M:t=(Con.mk k nm lo hi ad cap ps).check:=by unfold Con.check;rw[if_pos zA_];split at A;cases A;injection A with A;exact A.symm
 exact mA_
theorem js_ {G:Prop} (h:G:=by
 refine Zz 6 ?_;exact met ⟨rfl,rfl,rfl,(n_ rfl (jaf d)),trivial⟩):G:=h
theorem oO_ (c:Con):Fn0 Tryz.prog 98 #[c.val] (.bool c.empty):=by
 obtain⟨k,nm,lo,hi,ad,cap,ps⟩:=c;refine i_ Tryz.func98 rfl rfl Tryz.ntmps98 rfl fun G=>?_;refine Zz 2 ?_;refine aa_ rfl rfl fun x=>Zz 7 ?_
 refine B_ (bt_ rfl rfl) rfl fun C m=>Zz 1 ?_
 refine ai_ 4 ((k==0)&&(nm==[])) (fun r=>[(0,.agg (Con.cells (Con.mk k nm lo hi ad cap ps)).toArray),(1,zp_ x 0),(2,.bool false),(10,.bool r)]) ?_ fun E q=>?_
 ·cases C
  ·have d:=m
   replace m:=znb m;try dsimp only[Con.kind,Con.parts,Con.name,Con.lo,Con.hi,Con.cap,Con.ad]at m
   exact js_
  have d:=m;replace m:=zeb m;try dsimp only[Con.kind,Con.parts,Con.name,Con.lo,Con.hi,Con.cap,Con.ad]at m
  refine Zz 5 ?_;refine B_ (cX_ rfl rfl) rfl fun y h=>Zz 3 ?_
  exact met ⟨rfl,rfl,rfl,(n_ rfl (jat d h)),trivial⟩
 refine Zz 1 ?_;refine ai_ 4 ((((k==0)&&(nm==[])))&&(lo==0)) (fun r=>[(0,.agg (Con.cells (Con.mk k nm lo hi ad cap ps)).toArray),(1,zp_ x 0),(2,.bool false),(15,.bool r)]) ?_ fun y h=>?_
 ·cases E
  ·have d:=q
   simp at q
   try dsimp only[Con.kind,Con.parts,Con.name,Con.lo,Con.hi,Con.cap,Con.ad]at q
   exact js_
  have d:=q;simp at q
  try dsimp only[Con.kind,Con.parts,Con.name,Con.lo,Con.hi,Con.cap,Con.ad]at q
  refine Zz 5 ?_;refine B_ (bt_ rfl rfl) rfl fun A e=>Zz 3 ?_
  exact met ⟨rfl,rfl,rfl,(n_ rfl (jat d e)),trivial⟩
 refine Zz 1 ?_;refine ai_ 4 ((((((k==0)&&(nm==[])))&&(lo==0)))&&(hi==0)) (fun r=>[(0,.agg (Con.cells (Con.mk k nm lo hi ad cap ps)).toArray),(1,zp_ x 0),(2,.bool false),(20,.bool r)]) ?_ fun A e=>?_
 ·cases y
  ·have d:=h
   simp at h
   try dsimp only[Con.kind,Con.parts,Con.name,Con.lo,Con.hi,Con.cap,Con.ad]at h
   exact js_
  have d:=h;simp at h
  try dsimp only[Con.kind,Con.parts,Con.name,Con.lo,Con.hi,Con.cap,Con.ad]at h
  refine Zz 5 ?_;refine B_ (bt_ rfl rfl) rfl fun F v=>Zz 3 ?_
  exact met ⟨rfl,rfl,rfl,(n_ rfl (jat d v)),trivial⟩
 refine Zz 1 ?_;refine ai_ 5 ((((((((k==0)&&(nm==[])))&&(lo==0)))&&(hi==0)))&&((ps.length:Int)==0)) (fun r=>[(0,.agg (Con.cells (Con.mk k nm lo hi ad cap ps)).toArray),(2,.bool false),(26,.bool r)]) ?_ fun F v=>?_
 ·cases A
  ·have d:=e
   simp at e
   try dsimp only[Con.kind,Con.parts,Con.name,Con.lo,Con.hi,Con.cap,Con.ad]at e
   refine Zz 7 ?_;exact met ⟨rfl,rfl,(n_ rfl (jaf d)),trivial⟩
  have d:=e;simp at e
  try dsimp only[Con.kind,Con.parts,Con.name,Con.lo,Con.hi,Con.cap,Con.ad]at e
  refine Zz 7 ?_;refine B_ (bt_ rfl rfl) rfl fun H B=>Zz 3 ?_
  exact met ⟨rfl,rfl,(n_ rfl (jat d B)),trivial⟩
 refine Zz 4 ?_;exact ae_ Tryz.results98 () (n_ rfl v.symm) (.refl _) zt
theorem pE_ {g:FuncId} {pred:Con→Bool} (c:Con) (B:c.ok) (F:∀ p∈c.parts,Tri Tryz.prog g #[p.val] [] [p.memF] (fun _:Unit=>.bool (pred p)) (fun _=>[]) (fun _=>[])) :
    Tri Tryz.prog 150 #[.slice c.ad c.parts.length c.cap,.func (.func g) #[] #[]] [] [c.memF] (fun r:{r:Int // decide (0≤r)=c.parts.any pred}=>.int .i64 r.1) (fun _=>[]) (fun _=>[]):=by
  obtain⟨k,nm,lo,hi,ad,cap,ps⟩:=c;have x:=Con.ok_len B;simp only[Con.parts,Con.cap]at x;refine i_ Tryz.func150 rfl rfl Tryz.ntmps150 rfl fun E=>?_;refine Zz 14 ?_;refine bs_ [(0,.slice ad ps.length cap),(1,.func (.func g) #[] #[]),(7,.int .i64 (ps.length:Int)),(8,.int .i64 ((0:Nat):Int))] zl ?_;refine bR_ (ι:={q:Nat // q≤ps.length∧(ps.take q).any pred=false}) (fun i=>[(0,.slice ad ps.length cap),(1,.func (.func g) #[] #[]),(7,.int .i64 (ps.length:Int)),(8,.int .i64 (i.1:Int))]) (fun _=>_) (fun _=>_) (fun i=>ps.length - i.1) ⟨0,by simp⟩ ?_;rintro ⟨i,hk⟩;refine bs_ [(0,.slice ad ps.length cap),(1,.func (.func g) #[] #[]),(7,.int .i64 (ps.length:Int)),(8,.int .i64 (i:Int))] zl ?_;refine Zj 2 (fun y=>?_) fun y=>?_
  · skip
    refine Zz 12 ?_;exact ae_ Tryz.results150 ⟨-1,by have:=hk.2;rw[List.take_of_length_le zs_]at this;show _=ps.any pred;rw[this];rfl⟩ rfl (.refl _) zt
  · skip
    have m:i<ps.length:=by omega
    obtain⟨p,A⟩:∃ p,ps[i]? = some p:=⟨_,List.getElem?_eq_getElem m⟩;have e:p∈ps:=List.mem_of_getElem? A;refine Zz 19 ?_;refine e_ (S_ ad_ J_ rfl rfl (fun v _ h=>au_ (n:=5) Con.cells_len zw_ (((Con.mem_iff (.mk k nm lo hi ad cap ps) v).1 h.1).1) A) zs_ zy_) rfl ?_;refine e_ (aj_ (ad:=ad) (us:=p.cells) aH_ J_ rfl (fun v _ h=>((Con.mem_iff (.mk k nm lo hi ad cap ps) v).1 h.1).1) (Con.cells_len _) (o_ Con.cells_len A)) rfl (bI_ (F p e) rfl rfl (.refl _) (fun v _ h=>by exact⟨Con.mem_part (c:=(.mk k nm lo hi ad cap ps)) h.1 e,trivial⟩) rfl fun C d=>Zz 2 ?_);cases C
    · skip
      try dsimp only[Con.kind,Con.parts,Con.name,Con.lo,Con.hi,Con.cap,Con.ad]at d
      refine Zz 8 ?_;exact w_ ⟨i+1,m,by rw[Con.take_snoc A,List.any_append,hk.2];simp[*]⟩ zF_ zl (.refl _) zh
    · skip
      try dsimp only[Con.kind,Con.parts,Con.name,Con.lo,Con.hi,Con.cap,Con.ad]at d
      refine Zz 8 ?_;exact ae_ Tryz.results150 ⟨(i:Int),by show _=ps.any pred;rw[show ps.any pred=true from List.any_eq_true.2 ⟨p,e,by assumption⟩];exact decide_eq_true zs_⟩ rfl (.refl _) zt
theorem mh_ {g:FuncId} {pred:Con→Bool} (c:Con) (d:c.ok) (m:∀ p∈c.parts,Tri Tryz.prog g #[p.val] [] [p.memF] (fun _:Unit=>.bool (pred p)) (fun _=>[]) (fun _=>[])) :
    Tri Tryz.prog 103 #[.slice c.ad c.parts.length c.cap,.func (.func g) #[] #[]] [] [c.memF] (fun _:Unit=>.bool (c.parts.any pred)) (fun _=>[]) (fun _=>[]):=by
  obtain⟨k,nm,lo,hi,ad,cap,ps⟩:=c;refine i_ Tryz.func103 rfl rfl Tryz.ntmps103 rfl fun q=>?_;refine Zz 9 ?_;refine g_ (pE_ (.mk k nm lo hi ad cap ps) d m) rfl (.refl _) (fun v _ h=>h) rfl fun x=>B_ (eH_ rfl rfl) rfl fun y e=>Zz 4 ?_
  exact ae_ Tryz.results103 () (n_ rfl (e.symm.trans x.2)) (.refl _) zt
theorem dN_:∀ (m:Nat) (c:Con),c.sz≤m→c.ok→Tri Tryz.prog 64 #[c.val] [] [c.memF] (fun _:Unit=>.bool c.bare) (fun _=>[]) (fun _=>[]):=by
 intro m
 induction m with
 | zero=>intro c h;have:=c.sz_pos;omega
 | succ m ih =>
   intro c hm d;obtain⟨k,nm,lo,hi,ad,cap,ps⟩:=c;refine i_ Tryz.func64 rfl rfl Tryz.ntmps64 rfl fun A=>?_;refine Zz 2 ?_;refine aa_ rfl rfl fun C=>Zj 13 (fun q=>?_) fun q=>?_
   · skip
     refine Zj 6 (fun e=>?_) fun e=>?_
     · skip
       refine Zz 12 ?_;exact ae_ Tryz.results64 () (n_ rfl zae_) (.refl _) zt
     · skip
       refine Zz 8 ?_;refine T_ (mh_ (pred:=Con.bare) (.mk k nm lo hi ad cap ps) d (fun p x=>ih p (by have:=Con.sz_part (c:=(.mk k nm lo hi ad cap ps)) x;omega) (Con.ok_part (c:=(.mk k nm lo hi ad cap ps)) d x))) rfl (.refl _) (fun v _ h=>h) rfl fun B y=>?_;refine Zz 4 ?_;exact ae_ Tryz.results64 () (n_ rfl zae_) (.refl _) zt
   · skip
     refine Zz 10 ?_;exact ae_ Tryz.results64 () (n_ rfl zae_) (.refl _) zt
theorem hi_ {G:Prop} (h:G:=by
 refine Zz 7 ?_;exact met ⟨rfl,rfl,rfl,rfl,rfl,rfl,rfl,rfl,rfl,rfl,(n_ rfl (jot rfl)),trivial⟩):G:=h
theorem eV_ {G:Prop} (h:G:=by
 exact met ⟨rfl,rfl,rfl,rfl,rfl,rfl,rfl,rfl,rfl,(n_ rfl (jaf d)),trivial⟩):G:=h
theorem sw_ (x:Ax):Tri Tryz.prog 61 #[x.val] [] [ci_] (fun _:Unit=>.bool x.shaped) (fun _=>[]) (fun _=>[]):=by
 obtain⟨k,X,⟨kl,K,N,hl,al,cl,pl⟩,⟨P,G,I,H,O,J,L⟩,ad,cap,U,ro,a,b⟩:=x;refine i_ Tryz.func61 rfl rfl Tryz.ntmps61 rfl fun v_1=>?_;refine Zz 2 ?_;refine aa_ rfl rfl fun e=>Zz 8 ?_
 refine B_ (dc_ rfl rfl) rfl fun a6 C=>Zz 1 ?_
 refine ai_ 4 ((decide (k<1))||(decide (9<k))) (fun r=>[(0,.agg (Ax.cells (Ax.mk k X (Con.mk kl K N hl al cl pl) (Con.mk P G I H O J L) ad cap U ro a b)).toArray),(1,zp_ e 0),(2,.bool false),(11,.bool r)]) ?_ fun a8 S=>?_
 ·cases a6
  ·have d:=C
   replace C:=zdf C;try dsimp only[Con.kind,Con.parts,Con.name,Con.lo,Con.hi,Con.cap,Con.ad]at C
   refine Zz 5 ?_;refine B_ (dA_ rfl rfl) rfl fun a4 A=>Zz 3 ?_
   exact met (zm (jof d A))
  have d:=C;replace C:=zdt C;try dsimp only[Con.kind,Con.parts,Con.name,Con.lo,Con.hi,Con.cap,Con.ad]at C
  refine Zz 6 ?_;exact met ⟨rfl,rfl,rfl,(n_ rfl (jot d)),trivial⟩
 refine Zz 2 ?_;cases a8
 ·simp at S
  try dsimp only[Con.kind,Con.parts,Con.name,Con.lo,Con.hi,Con.cap,Con.ad]at S
  obtain⟨u,hx⟩:∃ u,tR_[k.toNat]? = some u:=⟨_,List.getElem?_eq_getElem (show k.toNat<10 by omega)⟩;have a7:us k=u:=by simp[us,hx]
  obtain⟨ul,M,Q,R,ub,V,W⟩:=u;refine Zz 7 ?_;refine e_ (dZ_ Tryz.runUnderlying96 jP_ rfl rfl zba_ (by show k<(10:Int);omega)) rfl ?_;refine e_ (aj_ (ad:=some ⟨0,0,none⟩) (us:=Use.cells ⟨ul,M,Q,R,ub,V,W⟩) Tryz.isAgg95 jP_ rfl (fun v _ h=>h.1.2.1) (Use.cells_len _) (o_ Use.cells_len hx)) rfl (G_ Tryz.zeroValue95 rfl fun F=>u_ 0 jP_ rfl rfl rfl rfl rfl rfl (Zz 7 ?_));refine ai_ 4 ((ul)||(Con.empty (.mk kl K N hl al cl pl))) (fun r=>[(0,.agg (Ax.cells (Ax.mk k X (Con.mk kl K N hl al cl pl) (Con.mk P G I H O J L) ad cap U ro a b)).toArray),(1,zp_ e 0),(2,.bool false),(11,.bool false),(12,zp_ e 0),(13,.int .i64 k),(14,.pointer (some (rad (some ⟨0,0,none⟩) (k.toNat*7)))),(15,.agg #[.bool ul,.bool M,.bool Q,.bool R,.bool ub,.int .i64 V,.int .i64 W]),(3,zp_ F 0),(22,.bool r)]) ?_ fun a4 A=>?_
  ·cases ul
   ·try dsimp only[Con.kind,Con.parts,Con.name,Con.lo,Con.hi,Con.cap,Con.ad]at hul
    refine Zz 5 ?_;refine T_ (oO_ (.mk kl K N hl al cl pl)) rfl (.refl _) zt rfl fun a2 B=>Zz 3 ?_
    exact met (zm (jof rfl B))
   try dsimp only[Con.kind,Con.parts,Con.name,Con.lo,Con.hi,Con.cap,Con.ad]at hul
   refine Zz 6 ?_;exact met ⟨rfl,rfl,rfl,rfl,rfl,rfl,rfl,rfl,rfl,(n_ rfl (jot rfl)),trivial⟩
  refine Zz 1 ?_;refine ai_ 8 ((((ul)||(Con.empty (.mk kl K N hl al cl pl))))&&(((M)||(Con.empty (.mk P G I H O J L))))) (fun r=>[(0,.agg (Ax.cells (Ax.mk k X (Con.mk kl K N hl al cl pl) (Con.mk P G I H O J L) ad cap U ro a b)).toArray),(1,zp_ e 0),(2,.bool false),(11,.bool false),(12,zp_ e 0),(13,.int .i64 k),(14,.pointer (some (rad (some ⟨0,0,none⟩) (k.toNat*7)))),(15,.agg #[.bool ul,.bool M,.bool Q,.bool R,.bool ub,.int .i64 V,.int .i64 W]),(3,zp_ F 0),(31,.bool r)]) ?_ fun a2 B=>?_
  ·cases a4
   ·have d:=A
    simp at A
    try dsimp only[Con.kind,Con.parts,Con.name,Con.lo,Con.hi,Con.cap,Con.ad]at A
    refine Zz 10 ?_;exact eV_
   have d:=A;simp at A
   try dsimp only[Con.kind,Con.parts,Con.name,Con.lo,Con.hi,Con.cap,Con.ad]at A
   refine Zz 6 ?_;refine ai_ 4 ((M)||(Con.empty (.mk P G I H O J L))) (fun r=>[(0,.agg (Ax.cells (Ax.mk k X (Con.mk kl K N hl al cl pl) (Con.mk P G I H O J L) ad cap U ro a b)).toArray),(1,zp_ e 0),(2,.bool false),(11,.bool false),(12,zp_ e 0),(13,.int .i64 k),(14,.pointer (some (rad (some ⟨0,0,none⟩) (k.toNat*7)))),(15,.agg #[.bool ul,.bool M,.bool Q,.bool R,.bool ub,.int .i64 V,.int .i64 W]),(3,zp_ F 0),(23,.bool true),(30,.bool r)]) ?_ fun a5 E=>?_
   ·cases M
    ·try dsimp only[Con.kind,Con.parts,Con.name,Con.lo,Con.hi,Con.cap,Con.ad]at hur
     refine Zz 5 ?_;refine T_ (oO_ (.mk P G I H O J L)) rfl (.refl _) zt rfl fun Y y=>Zz 4 ?_
     exact met (zm (jof rfl y))
    try dsimp only[Con.kind,Con.parts,Con.name,Con.lo,Con.hi,Con.cap,Con.ad]at hur
    exact hi_
   refine Zz 3 ?_;exact met ⟨rfl,rfl,rfl,rfl,rfl,rfl,rfl,rfl,rfl,(n_ rfl (jat d E)),trivial⟩
  refine Zz 1 ?_;refine ai_ 8 ((((((ul)||(Con.empty (.mk kl K N hl al cl pl))))&&(((M)||(Con.empty (.mk P G I H O J L))))))&&(((Q)||(ro==[])))) (fun r=>[(0,.agg (Ax.cells (Ax.mk k X (Con.mk kl K N hl al cl pl) (Con.mk P G I H O J L) ad cap U ro a b)).toArray),(1,zp_ e 0),(2,.bool false),(11,.bool false),(12,zp_ e 0),(13,.int .i64 k),(14,.pointer (some (rad (some ⟨0,0,none⟩) (k.toNat*7)))),(15,.agg #[.bool ul,.bool M,.bool Q,.bool R,.bool ub,.int .i64 V,.int .i64 W]),(3,zp_ F 0),(40,.bool r)]) ?_ fun a5 E=>?_
  ·cases a2
   ·have d:=B
    simp at B
    try dsimp only[Con.kind,Con.parts,Con.name,Con.lo,Con.hi,Con.cap,Con.ad]at B
    refine Zz 10 ?_;exact eV_
   have d:=B;simp at B
   try dsimp only[Con.kind,Con.parts,Con.name,Con.lo,Con.hi,Con.cap,Con.ad]at B
   refine Zz 6 ?_;refine ai_ 4 ((Q)||(ro==[])) (fun r=>[(0,.agg (Ax.cells (Ax.mk k X (Con.mk kl K N hl al cl pl) (Con.mk P G I H O J L) ad cap U ro a b)).toArray),(1,zp_ e 0),(2,.bool false),(11,.bool false),(12,zp_ e 0),(13,.int .i64 k),(14,.pointer (some (rad (some ⟨0,0,none⟩) (k.toNat*7)))),(15,.agg #[.bool ul,.bool M,.bool Q,.bool R,.bool ub,.int .i64 V,.int .i64 W]),(3,zp_ F 0),(32,.bool true),(39,.bool r)]) ?_ fun Y y=>?_
   ·cases Q
    ·try dsimp only[Con.kind,Con.parts,Con.name,Con.lo,Con.hi,Con.cap,Con.ad]at huo
     refine Zz 5 ?_;refine B_ (cX_ rfl rfl) rfl fun Z m=>Zz 4 ?_
     exact met (zm (jof rfl m))
    try dsimp only[Con.kind,Con.parts,Con.name,Con.lo,Con.hi,Con.cap,Con.ad]at huo
    exact hi_
   refine Zz 3 ?_;exact met ⟨rfl,rfl,rfl,rfl,rfl,rfl,rfl,rfl,rfl,(n_ rfl (jat d y)),trivial⟩
  refine Zz 1 ?_;refine ai_ 8 ((((((((ul)||(Con.empty (.mk kl K N hl al cl pl))))&&(((M)||(Con.empty (.mk P G I H O J L))))))&&(((Q)||(ro==[])))))&&(((R)||(a==[])))) (fun r=>[(0,.agg (Ax.cells (Ax.mk k X (Con.mk kl K N hl al cl pl) (Con.mk P G I H O J L) ad cap U ro a b)).toArray),(1,zp_ e 0),(2,.bool false),(11,.bool false),(12,zp_ e 0),(13,.int .i64 k),(14,.pointer (some (rad (some ⟨0,0,none⟩) (k.toNat*7)))),(15,.agg #[.bool ul,.bool M,.bool Q,.bool R,.bool ub,.int .i64 V,.int .i64 W]),(3,zp_ F 0),(49,.bool r)]) ?_ fun Y y=>?_
  ·cases a5
   ·have d:=E
    simp at E
    try dsimp only[Con.kind,Con.parts,Con.name,Con.lo,Con.hi,Con.cap,Con.ad]at E
    refine Zz 10 ?_;exact eV_
   have d:=E;simp at E
   try dsimp only[Con.kind,Con.parts,Con.name,Con.lo,Con.hi,Con.cap,Con.ad]at E
   refine Zz 6 ?_;refine ai_ 4 ((R)||(a==[])) (fun r=>[(0,.agg (Ax.cells (Ax.mk k X (Con.mk kl K N hl al cl pl) (Con.mk P G I H O J L) ad cap U ro a b)).toArray),(1,zp_ e 0),(2,.bool false),(11,.bool false),(12,zp_ e 0),(13,.int .i64 k),(14,.pointer (some (rad (some ⟨0,0,none⟩) (k.toNat*7)))),(15,.agg #[.bool ul,.bool M,.bool Q,.bool R,.bool ub,.int .i64 V,.int .i64 W]),(3,zp_ F 0),(41,.bool true),(48,.bool r)]) ?_ fun Z m=>?_
   ·cases R
    ·try dsimp only[Con.kind,Con.parts,Con.name,Con.lo,Con.hi,Con.cap,Con.ad]at hua
     refine Zz 5 ?_;refine B_ (cX_ rfl rfl) rfl fun a1 q=>Zz 4 ?_
     exact met (zm (jof rfl q))
    try dsimp only[Con.kind,Con.parts,Con.name,Con.lo,Con.hi,Con.cap,Con.ad]at hua
    exact hi_
   refine Zz 3 ?_;exact met ⟨rfl,rfl,rfl,rfl,rfl,rfl,rfl,rfl,rfl,(n_ rfl (jat d m)),trivial⟩
  refine Zz 1 ?_;refine ai_ 8 ((((((((((ul)||(Con.empty (.mk kl K N hl al cl pl))))&&(((M)||(Con.empty (.mk P G I H O J L))))))&&(((Q)||(ro==[])))))&&(((R)||(a==[])))))&&(((ub)||(b==[])))) (fun r=>[(0,.agg (Ax.cells (Ax.mk k X (Con.mk kl K N hl al cl pl) (Con.mk P G I H O J L) ad cap U ro a b)).toArray),(1,zp_ e 0),(2,.bool false),(11,.bool false),(12,zp_ e 0),(13,.int .i64 k),(14,.pointer (some (rad (some ⟨0,0,none⟩) (k.toNat*7)))),(15,.agg #[.bool ul,.bool M,.bool Q,.bool R,.bool ub,.int .i64 V,.int .i64 W]),(3,zp_ F 0),(58,.bool r)]) ?_ fun Z m=>?_
  ·cases Y
   ·have d:=y
    simp at y
    try dsimp only[Con.kind,Con.parts,Con.name,Con.lo,Con.hi,Con.cap,Con.ad]at y
    refine Zz 10 ?_;exact eV_
   have d:=y;simp at y
   try dsimp only[Con.kind,Con.parts,Con.name,Con.lo,Con.hi,Con.cap,Con.ad]at y
   refine Zz 6 ?_;refine ai_ 4 ((ub)||(b==[])) (fun r=>[(0,.agg (Ax.cells (Ax.mk k X (Con.mk kl K N hl al cl pl) (Con.mk P G I H O J L) ad cap U ro a b)).toArray),(1,zp_ e 0),(2,.bool false),(11,.bool false),(12,zp_ e 0),(13,.int .i64 k),(14,.pointer (some (rad (some ⟨0,0,none⟩) (k.toNat*7)))),(15,.agg #[.bool ul,.bool M,.bool Q,.bool R,.bool ub,.int .i64 V,.int .i64 W]),(3,zp_ F 0),(50,.bool true),(57,.bool r)]) ?_ fun a1 q=>?_
   ·cases ub
    ·try dsimp only[Con.kind,Con.parts,Con.name,Con.lo,Con.hi,Con.cap,Con.ad]at hub
     refine Zz 5 ?_;refine B_ (cX_ rfl rfl) rfl fun a3 T=>Zz 4 ?_
     exact met (zm (jof rfl T))
    try dsimp only[Con.kind,Con.parts,Con.name,Con.lo,Con.hi,Con.cap,Con.ad]at hub
    exact hi_
   refine Zz 3 ?_;exact met ⟨rfl,rfl,rfl,rfl,rfl,rfl,rfl,rfl,rfl,(n_ rfl (jat d q)),trivial⟩
  refine Zz 1 ?_;refine ai_ 7 ((((((((((((ul)||(Con.empty (.mk kl K N hl al cl pl))))&&(((M)||(Con.empty (.mk P G I H O J L))))))&&(((Q)||(ro==[])))))&&(((R)||(a==[])))))&&(((ub)||(b==[])))))&&(decide (V≤(U.length:Int)))) (fun r=>[(0,.agg (Ax.cells (Ax.mk k X (Con.mk kl K N hl al cl pl) (Con.mk P G I H O J L) ad cap U ro a b)).toArray),(1,zp_ e 0),(2,.bool false),(11,.bool false),(12,zp_ e 0),(13,.int .i64 k),(14,.pointer (some (rad (some ⟨0,0,none⟩) (k.toNat*7)))),(15,.agg #[.bool ul,.bool M,.bool Q,.bool R,.bool ub,.int .i64 V,.int .i64 W]),(3,zp_ F 0),(66,.bool r)]) ?_ fun a1 q=>?_
  ·cases Z
   ·have d:=m
    simp at m
    try dsimp only[Con.kind,Con.parts,Con.name,Con.lo,Con.hi,Con.cap,Con.ad]at m
    refine Zz 9 ?_;exact eV_
   have d:=m;simp at m
   try dsimp only[Con.kind,Con.parts,Con.name,Con.lo,Con.hi,Con.cap,Con.ad]at m
   refine Zz 11 ?_;refine B_ (eH_ rfl rfl) rfl fun a3 T=>Zz 3 ?_
   exact met ⟨rfl,rfl,rfl,rfl,rfl,rfl,rfl,rfl,rfl,(n_ rfl (jat d T)),trivial⟩
  refine Zz 1 ?_;refine ai_ 7 ((((((((((((((ul)||(Con.empty (.mk kl K N hl al cl pl))))&&(((M)||(Con.empty (.mk P G I H O J L))))))&&(((Q)||(ro==[])))))&&(((R)||(a==[])))))&&(((ub)||(b==[])))))&&(decide (V≤(U.length:Int)))))&&(decide ((U.length:Int)≤W))) (fun r=>[(0,.agg (Ax.cells (Ax.mk k X (Con.mk kl K N hl al cl pl) (Con.mk P G I H O J L) ad cap U ro a b)).toArray),(1,zp_ e 0),(2,.bool false),(11,.bool false),(12,zp_ e 0),(13,.int .i64 k),(14,.pointer (some (rad (some ⟨0,0,none⟩) (k.toNat*7)))),(15,.agg #[.bool ul,.bool M,.bool Q,.bool R,.bool ub,.int .i64 V,.int .i64 W]),(3,zp_ F 0),(74,.bool r)]) ?_ fun a3 T=>?_
  ·cases a1
   ·have d:=q
    simp at q
    try dsimp only[Con.kind,Con.parts,Con.name,Con.lo,Con.hi,Con.cap,Con.ad]at q
    refine Zz 9 ?_;exact eV_
   have d:=q;simp at q
   try dsimp only[Con.kind,Con.parts,Con.name,Con.lo,Con.hi,Con.cap,Con.ad]at q
   refine Zz 11 ?_;refine B_ (dj_ rfl rfl) rfl fun r_10 a0=>Zz 3 ?_
   exact met ⟨rfl,rfl,rfl,rfl,rfl,rfl,rfl,rfl,rfl,(n_ rfl (jat d a0)),trivial⟩
  refine Zz 4 ?_;exact ae_ Tryz.results61 () (n_ rfl (by unfold Ax.shaped;rw[if_neg (by simp only[not_or];omega)];simp only[a7];exact T.symm)) (.refl _) zt
 simp at S
 try dsimp only[Con.kind,Con.parts,Con.name,Con.lo,Con.hi,Con.cap,Con.ad]at S
 refine Zz 7 ?_;exact ae_ Tryz.results61 () (n_ rfl (by unfold Ax.shaped;rw[if_pos (by simpa using S)])) (.refl _) zt
theorem pn (s:Str):(((if aK_ s then 0 else 20):Int) != 0)=!aK_ s:=by cases aK_ s<;>rfl
theorem uA_ (x:Ax) (H:x.ok) (u:Use):Tri Tryz.prog 62 #[x.val,.agg u.cells.toArray] [] [x.memF] (fun _:Unit=>.bool (x.namedU u)) (fun _=>[]) (fun _=>[]):=by
 obtain⟨k,L,⟨kl,S,Y,hl,al,cl,pl⟩,⟨kr,M,O,N,Z,P,T⟩,ad,cap,y,ro,a,b⟩:=x;obtain⟨ul,U,G,F,ub,V,X⟩:=u;have R:=H.len;have W:=H.cap;dsimp only at R W;refine i_ Tryz.func62 rfl rfl Tryz.ntmps62 rfl fun v_1=>?_;refine Zz 2 ?_;refine aa_ rfl rfl fun E=>aa_ rfl rfl fun J=>Zz 9 ?_
 refine ai_ 5 ((G)&&(!(bh_ ro))) (fun r=>[(0,.agg (Ax.cells (Ax.mk k L (Con.mk kl S Y hl al cl pl) (Con.mk kr M O N Z P T) ad cap y ro a b)).toArray),(1,.agg #[.bool ul,.bool U,.bool G,.bool F,.bool ub,.int .i64 V,.int .i64 X]),(2,zp_ E 0),(3,zp_ J 0),(4,.bool false),(14,.bool r)]) ?_ fun r_1 B=>?_
 ·cases G
  ·try dsimp only[Con.kind,Con.parts,Con.name,Con.lo,Con.hi,Con.cap,Con.ad]at huo
   refine Zz 7 ?_;exact met ⟨rfl,rfl,rfl,rfl,rfl,(n_ rfl (jaf rfl)),trivial⟩
  try dsimp only[Con.kind,Con.parts,Con.name,Con.lo,Con.hi,Con.cap,Con.ad]at huo
  refine Zz 5 ?_;refine T_ (gY_ _) rfl (.refl _) zt rfl fun a0 m=>aQ_ rfl rfl (e_ (aw_ rfl) rfl (Zz 3 ?_))
  exact met ⟨rfl,rfl,rfl,rfl,rfl,(n_ rfl (jat rfl (jn m))),trivial⟩
 refine Zz 1 ?_;refine ai_ 9 ((((G)&&(!(bh_ ro))))||(((F)&&(((if aK_ a then 0 else 20):Int) != 0)))) (fun r=>[(0,.agg (Ax.cells (Ax.mk k L (Con.mk kl S Y hl al cl pl) (Con.mk kr M O N Z P T) ad cap y ro a b)).toArray),(1,.agg #[.bool ul,.bool U,.bool G,.bool F,.bool ub,.int .i64 V,.int .i64 X]),(2,zp_ E 0),(3,zp_ J 0),(4,.bool false),(24,.bool r)]) ?_ fun a0 m=>?_
 ·cases r_1
  ·have e:=B
   try dsimp only[Con.kind,Con.parts,Con.name,Con.lo,Con.hi,Con.cap,Con.ad]at B
   refine Zz 6 ?_;refine ai_ 5 ((F)&&(((if aK_ a then 0 else 20):Int) != 0)) (fun r=>[(0,.agg (Ax.cells (Ax.mk k L (Con.mk kl S Y hl al cl pl) (Con.mk kr M O N Z P T) ad cap y ro a b)).toArray),(1,.agg #[.bool ul,.bool U,.bool G,.bool F,.bool ub,.int .i64 V,.int .i64 X]),(2,zp_ E 0),(3,zp_ J 0),(4,.bool false),(15,.bool false),(23,.bool r)]) ?_ fun Q d=>?_
   ·cases F
    ·try dsimp only[Con.kind,Con.parts,Con.name,Con.lo,Con.hi,Con.cap,Con.ad]at hua
     refine Zz 8 ?_;exact met ⟨rfl,rfl,rfl,rfl,rfl,rfl,(n_ rfl (jaf rfl)),trivial⟩
    try dsimp only[Con.kind,Con.parts,Con.name,Con.lo,Con.hi,Con.cap,Con.ad]at hua
    refine Zz 5 ?_;refine g_ (gF_ _ H.a) rfl (.refl _) zt rfl fun _=>aQ_ rfl rfl (B_ (ce_ rfl rfl) rfl fun I A=>Zz 4 ?_)
    exact met ⟨rfl,rfl,rfl,rfl,rfl,rfl,(n_ rfl (jat rfl A)),trivial⟩
   refine Zz 3 ?_;exact met (zm (jof e d))
  have e:=B;try dsimp only[Con.kind,Con.parts,Con.name,Con.lo,Con.hi,Con.cap,Con.ad]at B
  refine Zz 11 ?_;exact met ⟨rfl,rfl,rfl,rfl,rfl,(n_ rfl (jot e)),trivial⟩
 refine Zz 1 ?_;refine ai_ 9 ((((((G)&&(!(bh_ ro))))||(((F)&&(((if aK_ a then 0 else 20):Int) != 0)))))||(((ub)&&(((if aK_ b then 0 else 20):Int) != 0)))) (fun r=>[(0,.agg (Ax.cells (Ax.mk k L (Con.mk kl S Y hl al cl pl) (Con.mk kr M O N Z P T) ad cap y ro a b)).toArray),(1,.agg #[.bool ul,.bool U,.bool G,.bool F,.bool ub,.int .i64 V,.int .i64 X]),(2,zp_ E 0),(4,.bool false),(34,.bool r)]) ?_ fun Q d=>?_
 ·cases a0
  ·have e:=m
   try dsimp only[Con.kind,Con.parts,Con.name,Con.lo,Con.hi,Con.cap,Con.ad]at m
   refine Zz 6 ?_;refine ai_ 5 ((ub)&&(((if aK_ b then 0 else 20):Int) != 0)) (fun r=>[(0,.agg (Ax.cells (Ax.mk k L (Con.mk kl S Y hl al cl pl) (Con.mk kr M O N Z P T) ad cap y ro a b)).toArray),(1,.agg #[.bool ul,.bool U,.bool G,.bool F,.bool ub,.int .i64 V,.int .i64 X]),(2,zp_ E 0),(4,.bool false),(25,.bool false),(33,.bool r)]) ?_ fun I A=>?_
   ·cases ub
    ·try dsimp only[Con.kind,Con.parts,Con.name,Con.lo,Con.hi,Con.cap,Con.ad]at hub
     refine Zz 8 ?_;exact met ⟨rfl,rfl,rfl,rfl,rfl,(n_ rfl (jaf rfl)),trivial⟩
    try dsimp only[Con.kind,Con.parts,Con.name,Con.lo,Con.hi,Con.cap,Con.ad]at hub
    refine Zz 5 ?_;refine g_ (gF_ _ H.b) rfl (.refl _) zt rfl fun _=>aQ_ rfl rfl (B_ (ce_ rfl rfl) rfl fun r_5 C=>Zz 4 ?_)
    exact met ⟨rfl,rfl,rfl,rfl,rfl,(n_ rfl (jat rfl C)),trivial⟩
   refine Zz 3 ?_;exact met (zm (jof e A))
  have e:=m;try dsimp only[Con.kind,Con.parts,Con.name,Con.lo,Con.hi,Con.cap,Con.ad]at m
  refine Zz 11 ?_;exact met ⟨rfl,rfl,rfl,rfl,(n_ rfl (jot e)),trivial⟩
 refine Zz 2 ?_;cases Q
 ·try dsimp only[Con.kind,Con.parts,Con.name,Con.lo,Con.hi,Con.cap,Con.ad]at d
  refine Zz 13 ?_;refine bs_ [(36,.slice ad y.length cap),(37,.int .i64 (y.length:Int)),(38,.int .i64 ((0:Nat):Int))] zl ?_;refine bR_ (ι:={q:Nat // q≤y.length∧(y.take q).all bh_=true}) (fun i=>[(36,.slice ad y.length cap),(37,.int .i64 (y.length:Int)),(38,.int .i64 (i.1:Int))]) (fun _=>_) (fun _=>_) (fun i=>y.length - i.1) ⟨0,by simp⟩ ?_;rintro ⟨i,hk⟩;refine bs_ [(36,.slice ad y.length cap),(37,.int .i64 (y.length:Int)),(38,.int .i64 (i:Int))] zl ?_;refine Zj 2 (fun A=>?_) fun A=>?_
  ·refine Zz 12 ?_
   exact ae_ Tryz.results62 () (n_ rfl (by have hf:y.all bh_=true:=(by have:=hk.2;rwa [List.take_of_length_le zs_]at this);unfold Ax.namedU;simp only[pn]at d;simp only[hf,d];rfl)) (.refl _) zt
  have K:i<y.length:=by omega
  obtain⟨q,hp⟩:∃ q,y[i]? = some q:=⟨_,List.getElem?_eq_getElem K⟩;refine Zz 10 ?_;refine e_ (S_ l_ E_ rfl rfl (fun v _ h=>au_ (n:=1) aq_ zw_ (h.1.2.2) hp) zs_ zy_) rfl ?_;refine Zz 7 ?_;refine T_ (gY_ _) rfl (.refl _) zt rfl fun I C=>e_ (aw_ rfl) rfl (Zz 2 ?_)
  cases I
  ·try dsimp only[Con.kind,Con.parts,Con.name,Con.lo,Con.hi,Con.cap,Con.ad]at C
   refine Zz 7 ?_;exact ae_ Tryz.results62 () (n_ rfl (by have hf:y.all bh_=false:=List.all_eq_false.2 ⟨q,List.mem_of_getElem? hp,by simp[*]⟩;unfold Ax.namedU;simp only[hf,Bool.and_false])) (.refl _) zt
  try dsimp only[Con.kind,Con.parts,Con.name,Con.lo,Con.hi,Con.cap,Con.ad]at C
  refine Zz 8 ?_;exact w_ ⟨i+1,K,by rw[List.take_add_one,hp];simp only[Option.toList_some,List.all_append,hk.2];simp[*]⟩ zF_ zl (.refl _) zh
 try dsimp only[Con.kind,Con.parts,Con.name,Con.lo,Con.hi,Con.cap,Con.ad]at d
 refine Zz 7 ?_;exact ae_ Tryz.results62 () (n_ rfl (by unfold Ax.namedU;simp only[pn]at d;simp only[d];rfl)) (.refl _) zt
theorem Ax.shaped_kind {x:Ax} (h:x.shaped=true):1≤x.kind∧x.kind≤9:=by
 unfold Ax.shaped at h
 split at h
 ·cases h
 rename_i d;simp only[not_or]at d;omega
theorem dW_ {G:Prop} (h:G:=by
 refine Zz 9 ?_;exact dX_):G:=h
theorem dH_ {G:Prop} (h:G:=by
 refine Zz 7 ?_;exact dX_):G:=h
theorem mv_ {G:Prop} (h:G:=by
 refine Zz 2 ?_;cases R
 ·simp at d
  try dsimp only[Con.kind,Con.parts,Con.name,Con.lo,Con.hi,Con.cap,Con.ad]at d
  exact dW_
 simp at d
 try dsimp only[Con.kind,Con.parts,Con.name,Con.lo,Con.hi,Con.cap,Con.ad]at d
 exact dH_):G:=h
theorem mw_ {G:Prop} (h:G:=by
 refine T_ (dN_ _ (.mk J C F E I G H) (Nat.le_refl _) A.right) rfl (.refl _) (fun v _ h=>⟨h.1.2.1,trivial⟩) rfl fun y K=>Zz 2 ?_
 cases y
 ·try dsimp only[Con.kind,Con.parts,Con.name,Con.lo,Con.hi,Con.cap,Con.ad]at K
  exact dW_
 try dsimp only[Con.kind,Con.parts,Con.name,Con.lo,Con.hi,Con.cap,Con.ad]at K
 exact dH_):G:=h
theorem mx_ {G:Prop} (h:G:=by
 refine Zz 11 ?_;refine T_ (dN_ _ (.mk J C F E I G H) (Nat.le_refl _) A.right) rfl (.refl _) (fun v _ h=>⟨h.1.2.1,trivial⟩) rfl fun y d=>Zz 2 ?_
 cases y
 ·try dsimp only[Con.kind,Con.parts,Con.name,Con.lo,Con.hi,Con.cap,Con.ad]at d
  exact dW_
 try dsimp only[Con.kind,Con.parts,Con.name,Con.lo,Con.hi,Con.cap,Con.ad]at d
 exact dH_):G:=h
theorem my_ {G:Prop} (h:G:=by
 cases y
 ·have B:=q
  try dsimp only[Con.kind,Con.parts,Con.name,Con.lo,Con.hi,Con.cap,Con.ad]at q
  refine Zz 5 ?_;refine T_ (dN_ _ (.mk J C F E I G H) (Nat.le_refl _) A.right) rfl (.refl _) (fun v _ h=>⟨h.1.2.1,trivial⟩) rfl fun a1 m=>Zz 3 ?_
  exact met (zm (jof B m))
 have B:=q;try dsimp only[Con.kind,Con.parts,Con.name,Con.lo,Con.hi,Con.cap,Con.ad]at q
 refine Zz 6 ?_;exact met ⟨rfl,rfl,rfl,rfl,rfl,rfl,rfl,rfl,rfl,rfl,rfl,rfl,rfl,rfl,rfl,rfl,rfl,rfl,rfl,rfl,rfl,rfl,rfl,rfl,rfl,rfl,rfl,rfl,rfl,(n_ rfl (jot B)),trivial⟩):G:=h
theorem jr_ {G:Prop} (h:G:=by
 refine T_ (dN_ _ (.mk J C F E I G H) (Nat.le_refl _) A.right) rfl (.refl _) (fun v _ h=>⟨h.1.2.1,trivial⟩) rfl fun y m=>Zz 2 ?_
 cases y
 ·try dsimp only[Con.kind,Con.parts,Con.name,Con.lo,Con.hi,Con.cap,Con.ad]at m
  exact dW_
 try dsimp only[Con.kind,Con.parts,Con.name,Con.lo,Con.hi,Con.cap,Con.ad]at m
 exact dH_):G:=h
theorem mz_ {G:Prop} (h:G:=by
 refine Zj 7 (fun q=>?_) fun q=>?_
 ·refine Zj 6 (fun d=>?_) fun d=>?_
  ·refine Zj 5 (fun m=>?_) fun m=>?_
   ·refine Zz 12 ?_
    exact dX_
   refine Zz 8 ?_;exact mw_
  refine Zz 11 ?_;exact jr_
 exact mx_):G:=h
theorem dX_ {G:Prop} (h:G:=by
 exact ae_ Tryz.results29 () (cf_ rfl (by unfold Ax.check;simp only[e];simp_all)) (.refl _) zt):G:=h
theorem hL_ (x:Ax) (A:x.ok):Tri Tryz.prog 29 #[x.val] [] [x.memF,ci_] (fun _:Unit=>.int .i64 x.check) (fun _=>[]) (fun _=>[]):=by
 obtain⟨k,S,⟨kl,N,O,hl,al,cl,pl⟩,⟨J,C,F,E,I,G,H⟩,ad,cap,T,ro,a,b⟩:=x;refine i_ Tryz.func29 rfl rfl Tryz.ntmps29 rfl fun v_1=>?_;refine Zz 2 ?_;refine aa_ rfl rfl fun M=>Zz 7 ?_
 refine T_ (sw_ ⟨k,S,(.mk kl N O hl al cl pl),(.mk J C F E I G H),ad,cap,T,ro,a,b⟩) rfl (.refl _) zf rfl fun r_1 U=>e_ (aw_ rfl) rfl (Zz 2 ?_)
 cases r_1
 ·try dsimp only[Con.kind,Con.parts,Con.name,Con.lo,Con.hi,Con.cap,Con.ad]at U
  refine Zz 7 ?_;exact ae_ Tryz.results29 () (cf_ rfl (by unfold Ax.check;simp_all)) (.refl _) zt
 try dsimp only[Con.kind,Con.parts,Con.name,Con.lo,Con.hi,Con.cap,Con.ad]at U
 have hk_1:1≤k∧k≤9:=Ax.shaped_kind U;obtain⟨u,hx⟩:∃ u,tR_[k.toNat]? = some u:=⟨_,List.getElem?_eq_getElem (show k.toNat<10 by omega)⟩;have e:us k=u:=by simp[us,hx]
 obtain⟨ul,ur,W,V,ub,X,Y⟩:=u;refine Zz 7 ?_;refine e_ (dZ_ Tryz.runUnderlying96 jP_ rfl rfl zba_ (by show k<(10:Int);omega)) rfl ?_;refine e_ (aj_ (ad:=some ⟨0,0,none⟩) (us:=Use.cells ⟨ul,ur,W,V,ub,X,Y⟩) Tryz.isAgg95 jP_ rfl (fun v _ h=>h.2.1.2.1) (Use.cells_len _) (o_ Use.cells_len hx)) rfl (G_ Tryz.zeroValue95 rfl fun P=>u_ 0 jP_ rfl rfl rfl rfl rfl rfl (Zz 7 ?_));refine T_ (uA_ ⟨k,S,(.mk kl N O hl al cl pl),(.mk J C F E I G H),ad,cap,T,ro,a,b⟩ A ⟨ul,ur,W,V,ub,X,Y⟩) rfl (.refl _) zf rfl fun r_2 Z=>e_ (aw_ rfl) rfl (Zz 2 ?_)
 cases r_2
 ·try dsimp only[Con.kind,Con.parts,Con.name,Con.lo,Con.hi,Con.cap,Con.ad]at Z
  exact dH_
 try dsimp only[Con.kind,Con.parts,Con.name,Con.lo,Con.hi,Con.cap,Con.ad]at Z
 refine Zz 10 ?_;cases ul
 ·try dsimp only[Con.kind,Con.parts,Con.name,Con.lo,Con.hi,Con.cap,Con.ad]at hul
  refine Zz 10 ?_;cases ur
  ·try dsimp only[Con.kind,Con.parts,Con.name,Con.lo,Con.hi,Con.cap,Con.ad]at hur
   refine Zj 13 (fun Q=>?_) fun Q=>?_
   ·refine Zj 7 (fun L=>?_) fun L=>?_
    ·refine Zj 6 (fun q=>?_) fun q=>?_
     ·refine Zj 5 (fun d=>?_) fun d=>?_
      ·refine Zz 12 ?_
       exact dX_
      refine Zz 8 ?_;exact jr_
     exact mx_
    refine Zz 11 ?_;refine T_ (dN_ _ (.mk J C F E I G H) (Nat.le_refl _) A.right) rfl (.refl _) (fun v _ h=>⟨h.1.2.1,trivial⟩) rfl fun y q=>Zz 2 ?_
    cases y
    ·try dsimp only[Con.kind,Con.parts,Con.name,Con.lo,Con.hi,Con.cap,Con.ad]at q
     exact dW_
    try dsimp only[Con.kind,Con.parts,Con.name,Con.lo,Con.hi,Con.cap,Con.ad]at q
    exact dH_
   refine Zz 8 ?_;refine T_ (dN_ _ (.mk kl N O hl al cl pl) (Nat.le_refl _) A.left) rfl (.refl _) (fun v _ h=>⟨h.1.1,trivial⟩) rfl fun y L=>Zz 1 ?_
   refine ai_ 4 ((Con.bare (.mk kl N O hl al cl pl))||(Con.bare (.mk J C F E I G H))) (fun r=>[(0,.agg (Ax.cells (Ax.mk k S (Con.mk kl N O hl al cl pl) (Con.mk J C F E I G H) ad cap T ro a b)).toArray),(1,zp_ M 0),(2,.int .i64 0),(6,.agg (Ax.cells (Ax.mk k S (Con.mk kl N O hl al cl pl) (Con.mk J C F E I G H) ad cap T ro a b)).toArray),(7,.bool true),(8,.bool false),(9,zp_ M 0),(10,.int .i64 k),(11,.pointer (some (rad (some ⟨0,0,none⟩) (k.toNat*7)))),(12,.agg #[.bool false,.bool false,.bool W,.bool V,.bool ub,.int .i64 X,.int .i64 Y]),(3,zp_ P 0),(13,.agg (Ax.cells (Ax.mk k S (Con.mk kl N O hl al cl pl) (Con.mk J C F E I G H) ad cap T ro a b)).toArray),(14,.agg #[.bool false,.bool false,.bool W,.bool V,.bool ub,.int .i64 X,.int .i64 Y]),(15,.bool true),(16,.bool false),(17,zp_ P 0),(18,.bool false),(25,zp_ P 1),(26,.bool false),(33,zp_ M 0),(34,.int .i64 k),(36,.bool true),(35,.bool true),(44,.bool r)]) ?_ fun R q=>?_
   ·cases y
    ·have B:=L
     try dsimp only[Con.kind,Con.parts,Con.name,Con.lo,Con.hi,Con.cap,Con.ad]at L
     refine Zz 5 ?_;refine T_ (dN_ _ (.mk J C F E I G H) (Nat.le_refl _) A.right) rfl (.refl _) (fun v _ h=>⟨h.1.2.1,trivial⟩) rfl fun a1 d=>Zz 3 ?_
     exact met (zm (jof B d))
    have B:=L;try dsimp only[Con.kind,Con.parts,Con.name,Con.lo,Con.hi,Con.cap,Con.ad]at L
    refine Zz 6 ?_;exact met ⟨rfl,rfl,rfl,rfl,rfl,rfl,rfl,rfl,rfl,rfl,rfl,rfl,rfl,rfl,rfl,rfl,rfl,rfl,rfl,rfl,rfl,rfl,rfl,(n_ rfl (jot B)),trivial⟩
   refine Zz 2 ?_;cases R
   ·simp at q
    try dsimp only[Con.kind,Con.parts,Con.name,Con.lo,Con.hi,Con.cap,Con.ad]at q
    exact dW_
   simp at q
   try dsimp only[Con.kind,Con.parts,Con.name,Con.lo,Con.hi,Con.cap,Con.ad]at q
   exact dH_
  try dsimp only[Con.kind,Con.parts,Con.name,Con.lo,Con.hi,Con.cap,Con.ad]at hur
  refine Zz 5 ?_;refine g_ (eS_ (.mk J C F E I G H) A.right) rfl (.refl _) (fun v _ h=>⟨h.1.2.1,h.2.1,trivial⟩) rfl fun _=>Zj 6 (fun Q=>?_) fun Q=>?_
  ·refine Zj 15 (fun L=>?_) fun L=>?_
   ·exact mz_
   refine Zz 8 ?_;refine T_ (dN_ _ (.mk kl N O hl al cl pl) (Nat.le_refl _) A.left) rfl (.refl _) (fun v _ h=>⟨h.1.1,trivial⟩) rfl fun y q=>Zz 1 ?_
   refine ai_ 4 ((Con.bare (.mk kl N O hl al cl pl))||(Con.bare (.mk J C F E I G H))) (fun r=>[(0,.agg (Ax.cells (Ax.mk k S (Con.mk kl N O hl al cl pl) (Con.mk J C F E I G H) ad cap T ro a b)).toArray),(1,zp_ M 0),(2,.int .i64 0),(6,.agg (Ax.cells (Ax.mk k S (Con.mk kl N O hl al cl pl) (Con.mk J C F E I G H) ad cap T ro a b)).toArray),(7,.bool true),(8,.bool false),(9,zp_ M 0),(10,.int .i64 k),(11,.pointer (some (rad (some ⟨0,0,none⟩) (k.toNat*7)))),(12,.agg #[.bool false,.bool true,.bool W,.bool V,.bool ub,.int .i64 X,.int .i64 Y]),(3,zp_ P 0),(13,.agg (Ax.cells (Ax.mk k S (Con.mk kl N O hl al cl pl) (Con.mk J C F E I G H) ad cap T ro a b)).toArray),(14,.agg #[.bool false,.bool true,.bool W,.bool V,.bool ub,.int .i64 X,.int .i64 Y]),(15,.bool true),(16,.bool false),(17,zp_ P 0),(18,.bool false),(25,zp_ P 1),(26,.bool true),(27,zp_ M 7),(28,.agg (Con.cells (Con.mk J C F E I G H)).toArray),(29,.int .i64 (Con.check (.mk J C F E I G H))),(5,.int .i64 (Con.check (.mk J C F E I G H))),(30,.int .i64 (Con.check (.mk J C F E I G H))),(31,.bool false),(33,zp_ M 0),(34,.int .i64 k),(36,.bool true),(35,.bool true),(44,.bool r)]) ?_ fun R d=>?_
   ·exact my_
   exact mv_
  refine Zz 10 ?_;exact dX_
 try dsimp only[Con.kind,Con.parts,Con.name,Con.lo,Con.hi,Con.cap,Con.ad]at hul
 refine Zz 5 ?_;refine g_ (eS_ (.mk kl N O hl al cl pl) A.left) rfl (.refl _) (fun v _ h=>⟨h.1.1,h.2.1,trivial⟩) rfl fun _=>Zj 6 (fun Q=>?_) fun Q=>?_
 ·refine Zz 12 ?_
  cases ur
  ·try dsimp only[Con.kind,Con.parts,Con.name,Con.lo,Con.hi,Con.cap,Con.ad]at hur
   refine Zj 13 (fun L=>?_) fun L=>?_
   ·exact mz_
   refine Zz 8 ?_;refine T_ (dN_ _ (.mk kl N O hl al cl pl) (Nat.le_refl _) A.left) rfl (.refl _) (fun v _ h=>⟨h.1.1,trivial⟩) rfl fun y q=>Zz 1 ?_
   refine ai_ 4 ((Con.bare (.mk kl N O hl al cl pl))||(Con.bare (.mk J C F E I G H))) (fun r=>[(0,.agg (Ax.cells (Ax.mk k S (Con.mk kl N O hl al cl pl) (Con.mk J C F E I G H) ad cap T ro a b)).toArray),(1,zp_ M 0),(2,.int .i64 0),(6,.agg (Ax.cells (Ax.mk k S (Con.mk kl N O hl al cl pl) (Con.mk J C F E I G H) ad cap T ro a b)).toArray),(7,.bool true),(8,.bool false),(9,zp_ M 0),(10,.int .i64 k),(11,.pointer (some (rad (some ⟨0,0,none⟩) (k.toNat*7)))),(12,.agg #[.bool true,.bool false,.bool W,.bool V,.bool ub,.int .i64 X,.int .i64 Y]),(3,zp_ P 0),(13,.agg (Ax.cells (Ax.mk k S (Con.mk kl N O hl al cl pl) (Con.mk J C F E I G H) ad cap T ro a b)).toArray),(14,.agg #[.bool true,.bool false,.bool W,.bool V,.bool ub,.int .i64 X,.int .i64 Y]),(15,.bool true),(16,.bool false),(17,zp_ P 0),(18,.bool true),(19,zp_ M 2),(20,.agg (Con.cells (Con.mk kl N O hl al cl pl)).toArray),(21,.int .i64 (Con.check (.mk kl N O hl al cl pl))),(4,.int .i64 (Con.check (.mk kl N O hl al cl pl))),(22,.int .i64 (Con.check (.mk kl N O hl al cl pl))),(23,.bool false),(25,zp_ P 1),(26,.bool false),(33,zp_ M 0),(34,.int .i64 k),(36,.bool true),(35,.bool true),(44,.bool r)]) ?_ fun R d=>?_
   ·exact my_
   exact mv_
  try dsimp only[Con.kind,Con.parts,Con.name,Con.lo,Con.hi,Con.cap,Con.ad]at hur
  refine Zz 5 ?_;refine g_ (eS_ (.mk J C F E I G H) A.right) rfl (.refl _) (fun v _ h=>⟨h.1.2.1,h.2.1,trivial⟩) rfl fun _=>Zj 6 (fun L=>?_) fun L=>?_
  ·refine Zj 15 (fun q=>?_) fun q=>?_
   ·refine Zj 7 (fun d=>?_) fun d=>?_
    ·refine Zj 6 (fun m=>?_) fun m=>?_
     ·refine Zj 5 (fun K=>?_) fun K=>?_
      ·refine Zz 12 ?_
       exact dX_
      refine Zz 8 ?_;refine T_ (dN_ _ (.mk J C F E I G H) (Nat.le_refl _) A.right) rfl (.refl _) (fun v _ h=>⟨h.1.2.1,trivial⟩) rfl fun y a0=>Zz 2 ?_
      cases y
      ·try dsimp only[Con.kind,Con.parts,Con.name,Con.lo,Con.hi,Con.cap,Con.ad]at a0
       exact dW_
      try dsimp only[Con.kind,Con.parts,Con.name,Con.lo,Con.hi,Con.cap,Con.ad]at a0
      exact dH_
     refine Zz 11 ?_;exact mw_
    refine Zz 11 ?_;exact jr_
   refine Zz 8 ?_;refine T_ (dN_ _ (.mk kl N O hl al cl pl) (Nat.le_refl _) A.left) rfl (.refl _) (fun v _ h=>⟨h.1.1,trivial⟩) rfl fun y d=>Zz 1 ?_
   refine ai_ 4 ((Con.bare (.mk kl N O hl al cl pl))||(Con.bare (.mk J C F E I G H))) (fun r=>[(0,.agg (Ax.cells (Ax.mk k S (Con.mk kl N O hl al cl pl) (Con.mk J C F E I G H) ad cap T ro a b)).toArray),(1,zp_ M 0),(2,.int .i64 0),(6,.agg (Ax.cells (Ax.mk k S (Con.mk kl N O hl al cl pl) (Con.mk J C F E I G H) ad cap T ro a b)).toArray),(7,.bool true),(8,.bool false),(9,zp_ M 0),(10,.int .i64 k),(11,.pointer (some (rad (some ⟨0,0,none⟩) (k.toNat*7)))),(12,.agg #[.bool true,.bool true,.bool W,.bool V,.bool ub,.int .i64 X,.int .i64 Y]),(3,zp_ P 0),(13,.agg (Ax.cells (Ax.mk k S (Con.mk kl N O hl al cl pl) (Con.mk J C F E I G H) ad cap T ro a b)).toArray),(14,.agg #[.bool true,.bool true,.bool W,.bool V,.bool ub,.int .i64 X,.int .i64 Y]),(15,.bool true),(16,.bool false),(17,zp_ P 0),(18,.bool true),(19,zp_ M 2),(20,.agg (Con.cells (Con.mk kl N O hl al cl pl)).toArray),(21,.int .i64 (Con.check (.mk kl N O hl al cl pl))),(4,.int .i64 (Con.check (.mk kl N O hl al cl pl))),(22,.int .i64 (Con.check (.mk kl N O hl al cl pl))),(23,.bool false),(25,zp_ P 1),(26,.bool true),(27,zp_ M 7),(28,.agg (Con.cells (Con.mk J C F E I G H)).toArray),(29,.int .i64 (Con.check (.mk J C F E I G H))),(5,.int .i64 (Con.check (.mk J C F E I G H))),(30,.int .i64 (Con.check (.mk J C F E I G H))),(31,.bool false),(33,zp_ M 0),(34,.int .i64 k),(36,.bool true),(35,.bool true),(44,.bool r)]) ?_ fun R m=>?_
   ·cases y
    ·have B:=d
     try dsimp only[Con.kind,Con.parts,Con.name,Con.lo,Con.hi,Con.cap,Con.ad]at d
     refine Zz 5 ?_;refine T_ (dN_ _ (.mk J C F E I G H) (Nat.le_refl _) A.right) rfl (.refl _) (fun v _ h=>⟨h.1.2.1,trivial⟩) rfl fun a1 K=>Zz 3 ?_
     exact met (zm (jof B K))
    have B:=d;try dsimp only[Con.kind,Con.parts,Con.name,Con.lo,Con.hi,Con.cap,Con.ad]at d
    refine Zz 6 ?_;exact met ⟨rfl,rfl,rfl,rfl,rfl,rfl,rfl,rfl,rfl,rfl,rfl,rfl,rfl,rfl,rfl,rfl,rfl,rfl,rfl,rfl,rfl,rfl,rfl,rfl,rfl,rfl,rfl,rfl,rfl,rfl,rfl,rfl,rfl,rfl,rfl,(n_ rfl (jot B)),trivial⟩
   refine Zz 2 ?_;cases R
   ·simp at m
    try dsimp only[Con.kind,Con.parts,Con.name,Con.lo,Con.hi,Con.cap,Con.ad]at m
    exact dW_
   simp at m
   try dsimp only[Con.kind,Con.parts,Con.name,Con.lo,Con.hi,Con.cap,Con.ad]at m
   exact dH_
  refine Zz 10 ?_;exact dX_
 refine Zz 10 ?_;exact dX_
def prE:Array MapEntry:=#[⟨.int .i64 1,.func (.func 229) #[] #[],0⟩,⟨.int .i64 2,.func (.func 230) #[] #[],1⟩,⟨.int .i64 3,.func (.func 231) #[] #[],2⟩,⟨.int .i64 4,.func (.func 232) #[] #[],3⟩,⟨.int .i64 5,.func (.func 233) #[] #[],4⟩,⟨.int .i64 6,.func (.func 234) #[] #[],5⟩,⟨.int .i64 7,.func (.func 235) #[] #[],6⟩]
def prF (m:Nat):Fct:=bW_ m (.map prE 7)
def prV (m n:Nat):Value:=.agg #[.map (some m),.map (some n)]
theorem elt39:Elt Tryz.prog 25 9 1 16:=jo_ il_ (z:=.string ⟨#[]⟩) zv_ rfl zw_
theorem wj_ {b n cap:Nat} (h:List Str) (d:Str) (H:h.length=n) {k:Array Value} {T:TypeId} {fz:Nat×Nat} (F:∀ (j:Nat) (x:Str),h[j]? = some x→k[j]? = some (str x)) (A:h.length≤cap) (J:h.length≤1000000) (m:(Lib.join h d).length≤140737488355328) :
    Tri Tryz.prog 252 #[.slice (some ⟨b,0,none⟩) n cap,str d] [(b,.cells k T fz)] [ci_] (fun _:Unit=>str (Lib.join h d)) (fun _=>[(b,.cells k T fz)]) (fun _=>[]):=by
  subst H;refine cT_ (callable Tryz.func252 rfl rfl) fun v B G=>?_;have E:=(B.own _ List.mem_cons_self).1;have e:(h.map fun x=>(⟨x.toArray⟩:ByteArray)).map (·.data.toList)=h:=by simp[List.map_map,Function.comp_def]
  have:=Tryz.strings_Join b 0 cap (h.map fun x=>⟨x.toArray⟩) ⟨d.toArray⟩ v.w (fun j x C=>by
    simp only[List.getElem?_map,Option.map_eq_some_iff]at C;obtain⟨y,I,rfl⟩:=C;simp only[World.cell?,E,Nat.zero_add];exact F j y I) (Array.getElem?_eq_some_iff.1 E).1 zF_ zaQ_ (by rw[e];exact m)
  rw[e,List.length_map]at this;exact this.mono fun _ _ q=>⟨q.1,q.2,.inl G.1.2.2.2.1⟩
theorem wm_ (n:Int) (d:-9223372036854775808≤n) (m:n≤9223372036854775807):Tri Tryz.prog 254 #[.int .i64 n] [] [ci_] (fun _:Unit=>str (Lib.itoa n)) (fun _=>[]) (fun _=>[]) :=
  cT_ (callable Tryz.func254 rfl rfl) fun v _ h=>(Tryz.strconv_Itoa n d m v.w (uh_ h.1.2.2.2)).mono (by
    rintro e w' ⟨rfl,k,os,rfl⟩;exact⟨rfl,sM_ _ _ _,.inr (Nat.le_add_right _ _)⟩)
theorem sZ_ {b n:Nat} (e:List Str) (m:e.length=n) {d:Array Value} {T:TypeId} {fz:Nat×Nat} (q:∀ (j:Nat) (x:Str),e[j]? = some x→d[j]? = some (str x)) (y:e.length≤1000000) (k:(Lib.join e [32]).length≤140737488355328) :
    Tri Tryz.prog 253 #[.slice (some ⟨b,0,none⟩) n n] [(b,.cells d T fz)] [ci_] (fun _:Unit=>str (Lib.join e [32])) (fun _=>[(b,.cells d T fz)]) (fun _=>[]):=by
  refine i_ Tryz.func253 rfl rfl Tryz.ntmps253 rfl fun A=>?_;refine Zz 8 ?_;refine g_ (wj_ e [32] m q (Nat.le_of_eq m) y k) rfl (.refl _) (fun v _ h=>h) rfl fun _=>Zz 4 ?_
  exact ae_ Tryz.results253 () rfl (F:=[]) (.refl _) zt
theorem pr_top (c:Con) (m n:Nat) (hk:c.kind=1):Tri Tryz.prog 229 #[prV m n,c.val] [] [c.memF,prF m,ci_] (fun _:Unit=>str c.text) (fun _=>[]) (fun _=>[]):=by
  obtain⟨k,nm,lo,hi,ad,cap,ps⟩:=c;simp only[Con.kind]at hk;refine i_ Tryz.func229 rfl rfl Tryz.ntmps229 rfl fun e=>?_;refine Zz 2 ?_;refine aa_ rfl rfl fun h=>aa_ rfl rfl fun d=>Zz 9 ?_
  exact ae_ Tryz.results229 () (fN_ rfl zad_) (.refl _) zt
theorem ug_ (c:Con) (m n:Nat) (hk:c.kind=2):Tri Tryz.prog 230 #[prV m n,c.val] [] [c.memF,prF m,ci_] (fun _:Unit=>str c.text) (fun _=>[]) (fun _=>[]):=by
  obtain⟨k,nm,lo,hi,ad,cap,ps⟩:=c;simp only[Con.kind]at hk;refine i_ Tryz.func230 rfl rfl Tryz.ntmps230 rfl fun e=>?_;refine Zz 2 ?_;refine aa_ rfl rfl fun h=>aa_ rfl rfl fun d=>Zz 9 ?_
  exact ae_ Tryz.results230 () (fN_ rfl zad_) (.refl _) zt
theorem vK_ (c:Con) (m n:Nat) (hk:c.kind=3):Tri Tryz.prog 231 #[prV m n,c.val] [] [c.memF,prF m,ci_] (fun _:Unit=>str c.text) (fun _=>[]) (fun _=>[]):=by
  obtain⟨k,nm,lo,hi,ad,cap,ps⟩:=c;simp only[Con.kind]at hk;refine i_ Tryz.func231 rfl rfl Tryz.ntmps231 rfl fun e=>?_;refine Zz 2 ?_;refine aa_ rfl rfl fun h=>aa_ rfl rfl fun d=>Zz 11 ?_
  exact ae_ Tryz.results231 () (fN_ rfl zad_) (.refl _) zt
theorem sf_ (c:Con) (m n:Nat) (hk:c.kind=4) (hl:c.name.length≤24):Tri Tryz.prog 232 #[prV m n,c.val] [] [c.memF,prF m,ci_] (fun _:Unit=>str c.text) (fun _=>[]) (fun _=>[]):=by
  obtain⟨k,nm,lo,hi,ad,cap,ps⟩:=c;simp only[Con.kind]at hk;refine i_ Tryz.func232 rfl rfl Tryz.ntmps232 rfl fun d=>?_;simp only[Con.name]at hl;refine Zz 2 ?_;refine aa_ rfl rfl fun h=>aa_ rfl rfl fun e=>Zz 7 ?_
  refine e_ (er_ rfl rfl (by simp[Con.name];omega)) rfl ?_;refine e_ (er_ rfl rfl (by simp[Con.name];omega)) rfl ?_;refine Zz 4 ?_;exact ae_ Tryz.results232 () (fN_ rfl zad_) (.refl _) zt
theorem mu_ {G:Prop} (h:G:=by
 exact ae_ Tryz.results251 () (fN_ rfl (by unfold Con.operand;first|exact (if_pos zA_).symm|exact (if_neg zA_).symm)) (.refl _) zt):G:=h
theorem se_ (c:Con) (m n:Nat) (hl:c.text.length≤100000) (e:Tri Tryz.prog 214 #[prV m n,c.val] [] [c.memF,prF m,ci_] (fun _:Unit=>str c.text) (fun _=>[]) (fun _=>[])):Tri Tryz.prog 251 #[prV m n,c.val] [] [c.memF,prF m,ci_] (fun _:Unit=>str c.operand) (fun _=>[]) (fun _=>[]):=by
 obtain⟨k,nm,lo,hi,ad,cap,ps⟩:=c;refine i_ Tryz.func251 rfl rfl Tryz.ntmps251 rfl fun q=>?_;refine Zz 2 ?_;refine aa_ rfl rfl fun y=>aa_ rfl rfl fun x=>Zj 8 (fun d=>?_) fun d=>?_
 ·refine Zz 9 ?_
  refine g_ (e) rfl (.refl _) (fun v _ h=>h) rfl fun _=>Zz 4 ?_
  exact mu_
 refine Zz 7 ?_;refine g_ (e) rfl (.refl _) (fun v _ h=>h) rfl fun _=>?_;refine e_ (er_ rfl rfl zI_) rfl ?_;refine e_ (er_ rfl rfl zI_) rfl ?_;refine Zz 4 ?_;exact mu_
theorem ga_ (c:Con) (m n:Nat) {g i:Nat} (e:db_ Tryz.prog 3 (.int .i64 c.kind) prE.toList (some (i,.func (.func g) #[] #[]))) (y:Tri Tryz.prog g #[prV m n,c.val] [] [c.memF,prF m,ci_] (fun _:Unit=>str c.text) (fun _=>[]) (fun _=>[])):Tri Tryz.prog 214 #[prV m n,c.val] [] [c.memF,prF m,ci_] (fun _:Unit=>str c.text) (fun _=>[]) (fun _=>[]):=by
  obtain⟨k,nm,lo,hi,ad,cap,ps⟩:=c;refine i_ Tryz.func214 rfl rfl Tryz.ntmps214 rfl fun d=>?_;refine Zz 2 ?_;refine aa_ rfl rfl fun x=>aa_ rfl rfl fun q=>Zz 9 ?_
  refine e_ (eX_ dm_ rfl rfl (fun v _ h=>h.2.1.2) (ba_ p_) e) rfl (Zz 2 ?_);refine ap_ (y) rfl rfl (.refl _) zf rfl fun _=>Zz 4 ?_
  exact ae_ Tryz.results214 () rfl (.refl _) zt
theorem xt_:hX_ Tryz.prog 253 [(0,1),(1,1)] [.map none,.map none]:=⟨_,Tryz.zeroValue253,cs_,fun w=>by simp[Tryz.sizeOf250,Tryz.sizeOf251]⟩
theorem pr_:Tri Tryz.prog 213 #[] [] [] (fun q:Nat×Nat=>prV q.1 q.2) (fun _=>[]) (fun q=>[prF q.1]):=by
  refine i_ Tryz.func213 rfl rfl Tryz.ntmps213 rfl fun m=>?_;refine Zz 2 ?_;refine G_ Tryz.zeroValue253 rfl fun x=>Zz 4 ?_
  refine aY_ rfl fun d=>aR_ 0 (.inl rfl) dm_ rfl rfl rfl rfl (ba_ p_) (aJ_ p_ rfl) (aR_ 0 (.inl rfl) dm_ rfl rfl rfl rfl (ba_ p_) (aJ_ p_ rfl) (aR_ 0 (.inl rfl) dm_ rfl rfl rfl rfl (ba_ p_) (aJ_ p_ rfl) (aR_ 0 (.inl rfl) dm_ rfl rfl rfl rfl (ba_ p_) (aJ_ p_ rfl) (aR_ 0 (.inl rfl) dm_ rfl rfl rfl rfl (ba_ p_) (aJ_ p_ rfl) (aR_ 0 (.inl rfl) dm_ rfl rfl rfl rfl (ba_ p_) (aJ_ p_ rfl) (aR_ 0 (.inl rfl) dm_ rfl rfl rfl rfl (ba_ p_) (aJ_ p_ rfl) (Zz 1 ?_)))))))
  refine aY_ rfl fun e=>aR_ 0 (.inl rfl) ct_ rfl rfl rfl rfl (ba_ p_) (aJ_ p_ rfl) (aR_ 0 (.inl rfl) ct_ rfl rfl rfl rfl (ba_ p_) (aJ_ p_ rfl) (aR_ 0 (.inl rfl) ct_ rfl rfl rfl rfl (ba_ p_) (aJ_ p_ rfl) (aR_ 0 (.inl rfl) ct_ rfl rfl rfl rfl (ba_ p_) (aJ_ p_ rfl) (aR_ 0 (.inl rfl) ct_ rfl rfl rfl rfl (ba_ p_) (aJ_ p_ rfl) (aR_ 0 (.inl rfl) ct_ rfl rfl rfl rfl (ba_ p_) (aJ_ p_ rfl) (aR_ 0 (.inl rfl) ct_ rfl rfl rfl rfl (ba_ p_) (aJ_ p_ rfl) (aR_ 0 (.inl rfl) ct_ rfl rfl rfl rfl (ba_ p_) (aJ_ p_ rfl) (aR_ 0 (.inl rfl) ct_ rfl rfl rfl rfl (ba_ p_) (aJ_ p_ rfl) (Zz 1 ?_)))))))))
  refine e_ (I_ xt_ rfl rfl) rfl (u_ 2 Tryz.sizeOf253 rfl rfl rfl rfl rfl rfl (Zz 3 ?_));refine iy_ 1 rfl ?_;exact gW_ (d,e) (fun a v k h=>ei_ (us:=[_,_]) 1 Tryz.results213 Tryz.isAgg253 Tryz.sizeOf253 rfl rfl rfl a v k h) (.refl _) zf
theorem pr_and (c:Con) (m n:Nat) (y:c.kind=5) (J:2≤c.parts.length∧c.parts.length≤8) (hl:(Lib.join (c.parts.map Con.operand) [32,97,110,100,32]).length≤140737488355328) (C:∀ p∈c.parts,Tri Tryz.prog 251 #[prV m n,p.val] [] [p.memF,prF m,ci_] (fun _:Unit=>str p.operand) (fun _=>[]) (fun _=>[])):Tri Tryz.prog 233 #[prV m n,c.val] [] [c.memF,prF m,ci_] (fun _:Unit=>str c.text) (fun _=>[]) (fun _=>[]):=by
 obtain⟨k,nm,lo,hi,ad,cap,ps⟩:=c;simp only[Con.kind,Con.parts]at y J hl C;refine i_ Tryz.func233 rfl rfl Tryz.ntmps233 rfl fun L=>?_;refine Zz 2 ?_;refine aa_ rfl rfl fun d=>aa_ rfl rfl fun Q=>Zz 18 ?_
 refine bs_ [(2,zp_ d 0),(5,.slice none 0 0),(9,.slice ad ps.length cap),(10,.int .i64 (ps.length:Int)),(11,.int .i64 ((0:Nat):Int))] zl ?_;refine bR_ (ι:={q:Nat×Value×Hp // q.1≤ps.length∧ay_ 9 1 q.2.1 q.1 ((ps.take q.1).flatMap fun p=>ag_ p.operand) q.2.2}) (fun q=>[(2,zp_ d 0),(5,q.1.2.1),(9,.slice ad ps.length cap),(10,.int .i64 (ps.length:Int)),(11,.int .i64 (q.1.1:Int))]) (fun q=>_::_::q.1.2.2) (fun _=>_) (fun q=>ps.length - q.1.1) ⟨(0,.slice none 0 0,[]),by simp,ay_.nil _ _⟩ ?_;rintro ⟨⟨i,sv,Hr⟩,hk⟩;dsimp only at hk;refine bs_ [(2,zp_ d 0),(5,sv),(9,.slice ad ps.length cap),(10,.int .i64 (ps.length:Int)),(11,.int .i64 (i:Int))] zl ?_;refine Zj 2 (fun H=>?_) fun H=>?_
 ·obtain rfl:i=ps.length:=by omega
  obtain⟨g,cp,cur,rfl,rfl,K,P,O,B⟩:=hk.2.some zs_;rw[List.take_length]at B;refine Zz 9 ?_;refine g_ (wj_ (ps.map Con.operand) [32,97,110,100,32] zB_ (or_ (n:=ps.length) (by rw[B,List.flatMap_map])) (by simpa using K) zF_ hl) rfl (@List.perm_append_comm _ [_,_] _) zf rfl fun _=>?_;refine Zz 4 ?_;exact ae_ Tryz.results233 () (fN_ rfl (by rw[Con.text_eq];simp[Con.kind,Con.parts,y])) (.refl _) zt
 have e:i<ps.length:=by omega
 obtain⟨p,I⟩:∃ p,ps[i]? = some p:=⟨_,List.getElem?_eq_getElem e⟩;have G:p∈ps:=List.mem_of_getElem? I;refine Zz 10 ?_;refine e_ (S_ ad_ J_ rfl rfl (fun v _ h=>au_ (n:=5) Con.cells_len zw_ (((Con.mem_iff (.mk k nm lo hi ad cap ps) v).1 h.1).1) I) zs_ zy_) rfl ?_;refine e_ (aj_ (ad:=ad) (us:=p.cells) aH_ J_ rfl (fun v _ h=>((Con.mem_iff (.mk k nm lo hi ad cap ps) v).1 h.1).1) (Con.cells_len _) (o_ Con.cells_len I)) rfl (G_ bU_ rfl fun N=>fi_ 0 J_ rfl rfl rfl rfl (Zz 5 ?_));refine e_ (dg_ 0 aH_ J_ rfl rfl) rfl (g_ (C p G) rfl (.refl _) (fun v _ h=>⟨Con.mem_part (c:=(.mk k nm lo hi ad cap ps)) h.1 G,h.2.1,h.2.2.1,trivial⟩) rfl fun _=>U_ l_ E_ ax_ rfl rfl rfl rfl rfl rfl fun M=>?_);refine an_ elt39 hk.2 rfl rfl (@List.perm_append_comm _ [_,_,_,_] _) rfl (aO_ 0 rfl) (kg_ rfl) zE_ zs_ rfl fun E x A=>?_;refine y_ (@List.perm_append_comm _ _ [_,_,_,_]) (Zz 8 ?_);exact w_ ⟨(i+1,E,x),e,by rw[Con.take_snoc I,List.flatMap_append];exact A⟩ zF_ zl (F:=[_,_]) (@List.perm_append_comm _ [_,_] _) zh
theorem xT_ (c:Con) (m n:Nat) (d:c.kind=6) (x:c.parts.length=1) (hl:c.text.length≤140737488355328) (e:∀ p∈c.parts,Tri Tryz.prog 251 #[prV m n,p.val] [] [p.memF,prF m,ci_] (fun _:Unit=>str p.operand) (fun _=>[]) (fun _=>[])):Tri Tryz.prog 234 #[prV m n,c.val] [] [c.memF,prF m,ci_] (fun _:Unit=>str c.text) (fun _=>[]) (fun _=>[]):=by
  obtain⟨k,nm,lo,hi,ad,cap,ps⟩:=c;simp only[Con.kind,Con.parts]at d x e;obtain⟨p,rfl⟩:=List.length_eq_one_iff.1 x;have A:[p][0]? = some p:=rfl;have q:p∈[p]:=List.mem_singleton.2 rfl;have y:(Con.mk k nm lo hi ad cap [p]).text=Lib.join [[115,111,109,101],nm,p.operand] [32]:=by rw[Con.text_eq];simp[Con.kind,Con.parts,Con.name,d]
  rw[y]at hl;refine i_ Tryz.func234 rfl rfl Tryz.ntmps234 rfl fun B=>?_;refine Zz 2 ?_;refine aa_ rfl rfl fun F=>aa_ rfl rfl fun C=>Zz 5 ?_
  refine K_ 4 [0,1,2,3,4,5,6] zk zs (Zz 5 ?_);refine N_ rfl (S_ ad_ J_ rfl rfl (fun v _ h=>au_ (n:=5) Con.cells_len zw_ (((Con.mem_iff (.mk k nm lo hi ad cap [p]) v).1 h.1).1) A) zs_ zy_) rfl ?_;refine N_ rfl (aj_ (ad:=ad) (us:=p.cells) aH_ J_ rfl (fun v _ h=>((Con.mem_iff (.mk k nm lo hi ad cap [p]) v).1 h.1).1) (Con.cells_len _) (o_ Con.cells_len A)) rfl (bv_ (s_ 7 rfl zk (g_ (e p q) rfl (.refl _) (fun v _ h=>⟨Con.mem_part (c:=.mk k nm lo hi ad cap [p]) h.1 q,h.2.1,h.2.2.1,trivial⟩) rfl fun _=>Zz 3 ?_)));refine s_ 8 rfl zk (U_ l_ E_ ax_ rfl rfl rfl rfl rfl rfl fun E=>Zz 3 ?_);refine s_ 9 rfl zk (g_ (sZ_ [[115,111,109,101],nm,p.operand] rfl (tg_ _) zB_ hl) rfl (.refl _) zf rfl fun _=>Zz 3 ?_);refine K_ 0 [10] zk zs (Zz 5 ?_);exact ae_ Tryz.results234 () (fN_ rfl y.symm) (.refl _) zt
theorem xS_ (c:Con) (m n:Nat) (d:c.kind=7) (e:c.ok) (hl:c.text.length≤140737488355328):Tri Tryz.prog 235 #[prV m n,c.val] [] [c.memF,prF m,ci_] (fun _:Unit=>str c.text) (fun _=>[]) (fun _=>[]):=by
  obtain⟨k,nm,lo,hi,ad,cap,ps⟩:=c;simp only[Con.kind]at d;obtain⟨_,_,_,q,x,v,h,_⟩:=e;have y:(Con.mk k nm lo hi ad cap ps).text=Lib.join [nm,[105,110],Lib.itoa lo,[116,111],Lib.itoa hi] [32]:=by rw[Con.text_eq];simp[Con.kind,Con.name,Con.lo,Con.hi,d]
  rw[y]at hl;refine i_ Tryz.func235 rfl rfl Tryz.ntmps235 rfl fun A=>?_;refine Zz 2 ?_;refine aa_ rfl rfl fun E=>aa_ rfl rfl fun B=>Zz 5 ?_
  refine K_ 5 [0,1,2,3,5,6] zk zs (Zz 7 ?_);refine s_ 4 rfl zk (g_ (wm_ _ q x) rfl (.refl _) zf rfl fun _=>Zz 3 ?_);refine s_ 7 rfl zk (g_ (wm_ _ v h) rfl (.refl _) zf rfl fun _=>Zz 3 ?_);refine s_ 8 rfl zk (U_ l_ E_ ax_ rfl rfl rfl rfl rfl rfl fun C=>Zz 3 ?_);refine s_ 9 rfl zk (g_ (sZ_ [nm,[105,110],Lib.itoa lo,[116,111],Lib.itoa hi] rfl (tg_ _) zB_ hl) rfl (.refl _) zf rfl fun _=>Zz 3 ?_);refine K_ 0 [10] zk zs (Zz 5 ?_);exact ae_ Tryz.results235 () (fN_ rfl y.symm) (.refl _) zt
theorem xR_ (m n:Nat):∀ (d:Nat) (c:Con),c.sz≤d→c.sz≤64→c.ok→c.fine→Tri Tryz.prog 214 #[prV m n,c.val] [] [c.memF,prF m,ci_] (fun _:Unit=>str c.text) (fun _=>[]) (fun _=>[]):=by
 intro d
 induction d with
 | zero=>intro c h;have:=c.sz_pos;omega
 | succ d ih =>
   intro c E C e x;have F:=Con.fields x;have hl:=Con.text_len _ c (Nat.le_refl _) e x
   have q:∀ p∈c.parts,Tri Tryz.prog 251 #[prV m n,p.val] [] [p.memF,prF m,ci_] (fun _:Unit=>str p.operand) (fun _=>[]) (fun _=>[]):=fun p k=>by
     have G:=Con.sz_part k;have hl:=Con.text_len _ p (Nat.le_refl _) (Con.ok_part e k) (Con.fine_part x k);exact se_ p m n zs_ (ih p zs_ zs_ (Con.ok_part e k) (Con.fine_part x k))
   have y:=F.k1;have B:=F.k7;have hm:=F.mo;have v:=F.le;have hk:c.kind=1∨c.kind=2∨c.kind=3∨c.kind=4∨c.kind=5∨c.kind=6∨c.kind=7:=by omega
   rcases hk with hk|hk|hk|hk|hk|hk|hk
   · exact ga_ c m n zX_ (pr_top c m n hk)
   · exact ga_ c m n zX_ (ug_ c m n hk)
   · exact ga_ c m n zX_ (vK_ c m n hk)
   · exact ga_ c m n zX_ (sf_ c m n hk F.nm)
   · have A:c.text=Lib.join (c.parts.map Con.operand) [32,97,110,100,32]:=by rw[Con.text_eq];simp[hk]
     rw[hk]at hm v;simp[nd,eC_]at hm v
     exact ga_ c m n zX_ (pr_and c m n hk ⟨by omega,by omega⟩ (by rw[← A];omega) q)
   · rw[hk]at hm v
     simp[nd,eC_]at hm v
     exact ga_ c m n zX_ (xT_ c m n hk zs_ zs_ q)
   · exact ga_ c m n zX_ (xS_ c m n hk e zs_)
theorem qD_ (c:Con) (h:c.ok):Tri Tryz.prog 191 #[c.val] [] [c.memF,ci_] (fun _:Unit=>.tuple #[str c.textN,.int .i64 c.check]) (fun _=>[]) (fun _=>[]):=by
 obtain⟨k,nm,lo,hi,ad,cap,ps⟩:=c;refine i_ Tryz.func191 rfl rfl Tryz.ntmps191 rfl fun v=>?_;refine Zz 2 ?_;refine aa_ rfl rfl fun x=>Zz 8 ?_
 refine g_ (eS_ (.mk k nm lo hi ad cap ps) h) rfl (.refl _) zf rfl fun _=>Zj 6 (fun d=>?_) fun d=>?_
 ·obtain⟨e,m⟩:=Con.check_zero d
  refine Zz 7 ?_;refine K_ 4 [1] zk zs (Zz 2 ?_);refine s_ 0 rfl zk (g_ (pr_) rfl (.refl _) zt rfl fun q=>Zz 3 ?_);refine s_ 2 rfl zk (g_ (xR_ q.1 q.2 _ (.mk k nm lo hi ad cap ps) (Nat.le_refl _) m h e) rfl (.refl _) zf rfl fun _=>Zz 3 ?_);refine K_ 0 [3,4] zk zs (Zz 6 ?_);exact kO_ Tryz.results191 () rfl rfl (by simp[Con.textN, *]<;>rfl) (.refl _) zt
 refine Zz 11 ?_;exact kO_ Tryz.results191 () rfl rfl (by simp[Con.textN, *]<;>rfl) (.refl _) zt
theorem yf_ (c:Con) (d:c.ok):Tri Tryz.prog 156 #[c.val] [] [c.memF,ci_] (fun _:Unit=>str c.textN) (fun _=>[]) (fun _=>[]):=by
  obtain⟨k,nm,lo,hi,ad,cap,ps⟩:=c;refine i_ Tryz.func156 rfl rfl Tryz.ntmps156 rfl fun e=>?_;refine Zz 2 ?_;refine aa_ rfl rfl fun m=>Zz 6 ?_
  refine g_ (qD_ (.mk k nm lo hi ad cap ps) d) rfl (.refl _) (fun v _ h=>h) rfl fun _=>Zz 14 ?_
  exact ae_ Tryz.results156 () rfl (.refl _) zt
theorem fL_ (s:Str) (e:s.length≤140737488351232) :
    Fn0 Tryz.prog 112 #[str s] (str ([123]++s++[125])):=by
  refine i_ Tryz.func112 rfl rfl Tryz.ntmps112 rfl fun d=>?_;refine Zz 8 ?_;refine e_ (er_ rfl rfl zF_) rfl ?_;refine e_ (er_ rfl rfl zF_) rfl ?_;refine Zz 4 ?_;exact ae_ Tryz.results112 () rfl (.refl _) zt
theorem fV_ {G:Prop} (h:G:=by
 exact ae_ Tryz.results111 () (fN_ rfl (by unfold Con.atom;simp only[Con.kind,Con.name]at *;simp[*])) (.refl _) zt):G:=h
theorem dx_ (c:Con) (d:c.ok):Tri Tryz.prog 111 #[c.val] [] [c.memF,ci_] (fun _:Unit=>str c.atom) (fun _=>[]) (fun _=>[]):=by
 obtain⟨k,nm,lo,hi,ad,cap,ps⟩:=c;refine i_ Tryz.func111 rfl rfl Tryz.ntmps111 rfl fun y=>?_;refine Zz 2 ?_;refine aa_ rfl rfl fun A=>Zj 13 (fun x=>?_) fun x=>?_
 ·refine Zj 6 (fun m=>?_) fun m=>?_
  ·refine Zj 6 (fun q=>?_) fun q=>?_
   ·refine Zj 6 (fun e=>?_) fun e=>?_
    ·refine Zz 9 ?_
     refine g_ (yf_ (.mk k nm lo hi ad cap ps) d) rfl (.refl _) (fun v _ h=>h) rfl fun _=>?_;refine e_ (er_ rfl rfl zat_) rfl ?_;refine e_ (er_ rfl rfl zat_) rfl ?_;refine Zz 4 ?_;exact fV_
    refine Zz 8 ?_;refine g_ (fL_ nm (Con.ok_name d)) rfl (.refl _) zt rfl fun _=>Zz 4 ?_
    exact fV_
   refine Zz 12 ?_;exact fV_
  refine Zz 10 ?_;exact fV_
 refine Zz 10 ?_;exact fV_
theorem eqPc (p q:Pc) (w:World):(Op.equalIn 10000 174 p.val q.val).run Tryz.prog w=.ok (decide (p=q)) w:=by
  have h:=run_equalIn_struct (P:=Tryz.prog) w 9999 174 p.cells.toArray q.cells.toArray (by simp only[Program.fieldsOf,fc_]) Tryz.stoodInHeld174;refine h.trans ?_;rw[← Pc.eqb_eq];simp only[Program.fieldsOf,fc_];exact bO_ rfl aN_ rfl rfl (eqI p_ w) (bO_ rfl W_ rfl rfl (eqS aF_ w) (bO_ rfl W_ rfl rfl (eqS aF_ w) (bO_ rfl W_ rfl rfl (eqS aF_ w) (bO_ rfl W_ rfl rfl (eqS aF_ w) (bO_ rfl W_ rfl rfl (eqS aF_ w) (bO_ rfl W_ rfl rfl (eqS aF_ w) (bO_ rfl aN_ rfl rfl (eqI p_ w) (bO_ rfl aN_ rfl rfl (eqI p_ w) (bO_ rfl aN_ rfl rfl (eqI p_ w) (kq_ w))))))))))
theorem eqFc (p q:Fc) (w:World):(Op.equalIn 10000 36 p.val q.val).run Tryz.prog w=.ok (decide (p=q)) w:=by
  have h:=run_equalIn_struct (P:=Tryz.prog) w 9999 36 p.cells.toArray q.cells.toArray (by simp only[Program.fieldsOf,Tryz.underlying36]) Tryz.stoodInHeld36;refine h.trans ?_;rw[← Fc.eqb_eq];simp only[Program.fieldsOf,Tryz.underlying36];exact bO_ rfl aN_ rfl rfl (eqI p_ w) (bO_ rfl W_ rfl rfl (eqS aF_ w) (bO_ rfl W_ rfl rfl (eqS aF_ w) (bO_ rfl W_ rfl rfl (eqS aF_ w) (bO_ rfl aN_ rfl rfl (eqI p_ w) (bO_ rfl aN_ rfl rfl (eqI p_ w) (kq_ w))))))
theorem tv_ (p:Pc):hg_ Tryz.prog 174 p.val:=fun e w=>by
 have hi:∀ (n:Int) (w:World),(Instr.checkKey e (9998+1) 3 (.int .i64 n)).run Tryz.prog w=.ok () w:=fun n w=>MapKept.run_checkKey (d:=.int .i64) p_ zaA_ e 9998
 have h:∀ (n:Str) (w:World),(Instr.checkKey e (9998+1) 9 (str n)).run Tryz.prog w=.ok () w:=fun n w=>MapKept.run_checkKey (d:=.string) aF_ zaq_ e 9998
 refine ckF (n:=9999) fc_ fun f k=>?_;simp only[List.mem_cons,List.not_mem_nil,or_false]at k;rcases k with rfl|rfl|rfl|rfl|rfl|rfl|rfl|rfl|rfl|rfl
 ·exact⟨rfl,aN_,_,rfl,hi _⟩
 ·exact⟨rfl,W_,_,rfl,h _⟩
 ·exact⟨rfl,W_,_,rfl,h _⟩
 ·exact⟨rfl,W_,_,rfl,h _⟩
 ·exact⟨rfl,W_,_,rfl,h _⟩
 ·exact⟨rfl,W_,_,rfl,h _⟩
 ·exact⟨rfl,W_,_,rfl,h _⟩
 ·exact⟨rfl,aN_,_,rfl,hi _⟩
 ·exact⟨rfl,aN_,_,rfl,hi _⟩
 exact⟨rfl,aN_,_,rfl,hi _⟩
theorem wF_:Elt Tryz.prog 63 174 10 128:=jo_ Tryz.underlying63 (z:=.agg (Pc.mk 0 [] [] [] [] [] [] 0 0 0).cells.toArray) zv_ rfl zw_
theorem dk_:hX_ Tryz.prog 174 [(0,1),(1,1),(2,1),(3,1),(4,1),(5,1),(6,1),(7,1),(8,1),(9,1)] [.int .i64 0,str [],str [],str [],str [],str [],str [],.int .i64 0,.int .i64 0,.int .i64 0]:=⟨_,P_,cw_,fun w=>by simp[ak_,E_]⟩
theorem eI_:hX_ Tryz.prog 36 [(0,1),(1,1),(2,1),(3,1),(4,1),(5,1)] [.int .i64 0,str [],str [],str [],.int .i64 0,.int .i64 0]:=⟨_,Y_,cP_,fun w=>by simp[ak_,E_]⟩
structure CS where
  sv:Value
  bm:Nat
  es:Array MapEntry
  clk:Nat
  Hr:Hp
def gE_ (kb:Nat) (frm:Int) (q:CS):Hp:=(kb,.cells #[.int .i64 frm,q.sv,.map (some q.bm)] 114 (0,0))::(q.bm,.map q.es q.clk)::q.Hr
structure CInv (l:List Pc) (q:CS):Prop where
  row:ay_ 174 10 q.sv l.length (l.flatMap Pc.cells) q.Hr
  keys:q.es.toList.map (·.key)=l.map Pc.val
  vals:∀ x∈q.es.toList,x.val=.bool true
theorem CInv.push {l:List Pc} {p:Pc} {sv e:Value} {bm clk:Nat} {es:Array MapEntry} {Hr d:Hp} (h:CInv l ⟨sv,bm,es,clk,Hr⟩) (m:ay_ 174 10 e (l.length+1) (l.flatMap Pc.cells++p.cells) d):CInv (l++[p]) ⟨e,bm,es.push ⟨p.val,.bool true,clk⟩,clk+1,d⟩:=by
 refine⟨?_,?_,?_⟩
 ·simpa [List.flatMap_append] using m
 ·have:=h.keys
  simp only at this;simp[this]
 intro x k;simp only[Array.toList_push,List.mem_append,List.mem_singleton]at k;rcases k with k|rfl
 ·exact h.vals x k
 rfl
theorem ef_ (p:Pc) {kb C:Nat} (frm:Int) (l:List Pc) (q:CS) (B:CInv l q) (N:l.length≤100000) :
    Tri Tryz.prog 110 #[zp_ kb 0,.slice (some ⟨C,0,none⟩) 1 1] ((C,.cells p.cells.toArray 174 (0,0))::gE_ kb frm q) [] (fun _:{M:CS // CInv (ins frm l p) M}=>.tuple #[]) (fun M=>gE_ kb frm M.1) (fun _=>[]):=by
  obtain⟨k,a,b,c,r,s,t,lo,hi,f⟩:=p;obtain⟨sv,bm,es,clk,Hr⟩:=q;refine i_ Tryz.func110 rfl rfl Tryz.ntmps110 rfl fun P=>?_;refine Zz 8 ?_;refine bs_ [(0,zp_ kb 0),(6,.slice (some ⟨C,0,none⟩) 1 1),(7,.int .i64 1),(8,.int .i64 ((0:Nat):Int))] zl ?_;refine bR_ (ι:={x:Nat×CS // (x.1=0∧x.2=⟨sv,bm,es,clk,Hr⟩)∨(x.1=1∧CInv (ins frm l ⟨k,a,b,c,r,s,t,lo,hi,f⟩) x.2)}) (fun x=>[(0,zp_ kb 0),(6,.slice (some ⟨C,0,none⟩) 1 1),(7,.int .i64 1),(8,.int .i64 (x.1.1:Int))]) (fun x=>_::gE_ kb frm x.1.2) (fun _=>_) (fun x=>1 - x.1.1) ⟨(0,⟨sv,bm,es,clk,Hr⟩),.inl ⟨rfl,rfl⟩⟩ ?_;rintro ⟨⟨i,K⟩,hk⟩;dsimp only at hk;rcases hk with⟨rfl,rfl⟩|⟨rfl,O⟩
  · skip
    refine bs_ [(0,zp_ kb 0),(6,.slice (some ⟨C,0,none⟩) 1 1),(7,.int .i64 1),(8,.int .i64 0)] zl ?_;refine Zj 2 (fun e=>?_) fun e=>?_
    · skip
      exact absurd zw_ e
    · skip
      refine Zz 10 ?_;refine e_ (fa_ D_ F_ rfl rfl zw_ zw_) rfl (Zz 1 ?_);refine G_ P_ rfl fun G=>u_ 0 F_ rfl rfl rfl rfl rfl rfl (Zz 9 ?_)
      refine u_ 0 ak_ rfl rfl rfl rfl rfl rfl (Zz 3 ?_)
      by_cases hm:(⟨k,a,b,c,r,s,t,lo,hi,frm⟩:Pc)∈l
      · skip
        obtain⟨j,J⟩:=(hH_ fc_ (fun p q w=>eqPc p q w) (⟨k,a,b,c,r,s,t,lo,hi,frm⟩:Pc) l es.toList B.keys).2 hm B.vals;refine Zz 1 ?_;refine K_ 0 [0,1,2,3,4,5,6] zk zs (Zz 5 ?_);refine N_ rfl (eX_ jm_ rfl rfl (fun v h _=>(h.own _ (List.mem_of_getElem? (i:=3) rfl)).1) (tv_ (⟨k,a,b,c,r,s,t,lo,hi,frm⟩:Pc)) J) rfl (N_ rfl (aw_ rfl) rfl (Zz 11 ?_));exact w_ ⟨(1,⟨sv,bm,es,clk,Hr⟩),.inr ⟨rfl,by simp only[ins,if_pos hm];exact B⟩⟩ Nat.zero_lt_one zl (F:=[_]) (@List.perm_append_comm _ [_] _) zh
      · skip
        have J:=(hH_ fc_ (fun p q w=>eqPc p q w) (⟨k,a,b,c,r,s,t,lo,hi,frm⟩:Pc) l es.toList B.keys).1 hm;refine Zz 1 ?_;refine K_ 0 [0,1,2,3,4,5,6] zk zs (Zz 5 ?_);refine N_ rfl (eG_ jm_ as_ rfl rfl (fun v h _=>(h.own _ (List.mem_of_getElem? (i:=3) rfl)).1) (tv_ (⟨k,a,b,c,r,s,t,lo,hi,frm⟩:Pc)) J) rfl (N_ rfl (aw_ rfl) rfl (Zz 5 ?_));refine af_ [(G,.cells #[.int .i64 k,str a,str b,str c,str r,str s,str t,.int .i64 lo,.int .i64 hi,.int .i64 frm] 174 (0,0)),(C,.cells #[.int .i64 k,str a,str b,str c,str r,str s,str t,.int .i64 lo,.int .i64 hi,.int .i64 f] 174 (0,0)),(kb,.cells #[.int .i64 frm,sv,.map (some bm)] 114 (0,0))] zk ?_;refine K_ 1 [0,1,2,3,4] zk (fun _ a b=>⟨Vw.sat.sub a,b⟩) (Zz 6 ?_);refine s_ 5 rfl zk (aR_ 3 (.inr rfl) jm_ rfl rfl rfl rfl (tv_ (⟨k,a,b,c,r,s,t,lo,hi,frm⟩:Pc)) J (Zz 2 ?_));refine O_ (fun _ a b=>⟨Vw.sat.sub a,b⟩) (Zz 2 ?_);refine af_ [(G,.cells #[.int .i64 k,str a,str b,str c,str r,str s,str t,.int .i64 lo,.int .i64 hi,.int .i64 frm] 174 (0,0))] zk ?_;refine K_ 6 [0,1,2,3,5] zk (fun _ a b=>⟨Vw.sat.sub a,b⟩) (Zz 6 ?_);refine gG_ 4 6 rfl rfl zk ?_ ?_
        · skip
          refine Zz 3 ?_;refine O_ (fun _ a b=>⟨Vw.sat.sub a,b⟩) (s_ 6 rfl zk (U_ D_ F_ P_ rfl rfl rfl rfl rfl rfl fun L=>Zz 2 ?_));refine O_ (fun _ a b=>⟨Vw.sat.sub a.tail,b⟩) (s_ 7 rfl zk (an_ (news:=Pc.cells (⟨k,a,b,c,r,s,t,lo,hi,frm⟩:Pc)) wF_ B.row rfl rfl (@List.perm_append_comm _ [_,_,_,_,_] _) rfl (aO_ 0 rfl) (kg_ rfl) zE_ zs_ rfl fun I E d=>?_));refine y_ (@List.perm_append_comm _ _ [_,_,_,_,_]) ?_;obtain⟨y,A,m,rfl,rfl,H⟩:=d.some zs_;refine Zz 2 ?_;refine O_ (fun _ a b=>⟨Vw.sat.sub a.tail,b⟩) (K_ 1 [8,9] zk (fun _ a b=>⟨Vw.sat.sub a.tail,b⟩) (Zz 3 ?_));refine s_ 10 rfl zk (u_ 3 zf_ rfl rfl rfl rfl rfl rfl (Zz 2 ?_));refine O_ (fun _ a b=>⟨Vw.sat.sub a.tail,b⟩) (Zz 7 ?_);exact w_ ⟨(1,⟨.slice (some ⟨y,0,none⟩) (l.length+1) A,bm,es.push ⟨Pc.val (⟨k,a,b,c,r,s,t,lo,hi,frm⟩:Pc),.bool true,clk⟩,clk+1,[(y,.cells m 174 (0,0))]⟩),.inr ⟨rfl,by simp only[ins,if_neg hm];exact B.push d⟩⟩ Nat.zero_lt_one zl (F:=[_,_]) (@List.perm_append_comm _ [_,_] _) zh
        · skip
          refine U_ D_ F_ P_ rfl rfl rfl rfl rfl rfl fun L=>Zz 2 ?_
          refine O_ (fun _ a b=>⟨Vw.sat.sub a.tail,b⟩) (s_ 4 rfl zk (Zz 3 ?_));refine O_ (fun _ a b=>⟨Vw.sat.sub a.tail,b⟩) (s_ 7 rfl zk (an_ (news:=Pc.cells (⟨k,a,b,c,r,s,t,lo,hi,frm⟩:Pc)) wF_ B.row rfl rfl (@List.perm_append_comm _ [_,_,_,_,_] _) rfl (aO_ 0 rfl) (kg_ rfl) zE_ zs_ rfl fun I E d=>?_));refine y_ (@List.perm_append_comm _ _ [_,_,_,_,_]) ?_;obtain⟨y,A,m,rfl,rfl,H⟩:=d.some zs_;refine Zz 2 ?_;refine O_ (fun _ a b=>⟨Vw.sat.sub a.tail,b⟩) (K_ 1 [8,9] zk (fun _ a b=>⟨Vw.sat.sub a.tail,b⟩) (Zz 3 ?_));refine s_ 10 rfl zk (u_ 3 zf_ rfl rfl rfl rfl rfl rfl (Zz 2 ?_));refine O_ (fun _ a b=>⟨Vw.sat.sub a.tail,b⟩) (Zz 7 ?_);exact w_ ⟨(1,⟨.slice (some ⟨y,0,none⟩) (l.length+1) A,bm,es.push ⟨Pc.val (⟨k,a,b,c,r,s,t,lo,hi,frm⟩:Pc),.bool true,clk⟩,clk+1,[(y,.cells m 174 (0,0))]⟩),.inr ⟨rfl,by simp only[ins,if_neg hm];exact B.push d⟩⟩ Nat.zero_lt_one zl (F:=[_,_]) (@List.perm_append_comm _ [_,_] _) zh
  · skip
    refine bs_ [(0,zp_ kb 0),(6,.slice (some ⟨C,0,none⟩) 1 1),(7,.int .i64 1),(8,.int .i64 1)] zl ?_;refine Zj 2 (fun e=>?_) fun e=>?_
    · skip
      refine Zz 6 ?_;exact co_ Tryz.results110 ⟨K,O⟩ rfl (F:=[_]) (@List.perm_append_comm _ [_] _) zt
    · skip
      exact absurd e zw_
theorem xy_:hX_ Tryz.prog 114 [(0,1),(1,1),(2,1)] [.int .i64 0,.slice none 0 0,.map none]:=⟨_,Tryz.zeroValue114,ca_,fun w=>by simp[ak_,zf_,Tryz.sizeOf112]⟩
theorem nr_ (frm:Int):Tri Tryz.prog 69 #[.int .i64 frm] [] [] (fun x:Nat×Nat=>zp_ x.1 0) (fun x=>gE_ x.1 frm ⟨.slice none 0 0,x.2,#[],0,[]⟩) (fun _=>[]):=by
  refine i_ Tryz.func69 rfl rfl Tryz.ntmps69 rfl fun h=>?_;refine Zz 8 ?_;refine aY_ rfl fun e=>e_ (I_ xy_ rfl rfl) rfl (aa_ rfl rfl fun d=>Zz 4 ?_)
  exact ae_ Tryz.results69 (d,e) rfl (F:=[]) (.refl _) zt
def kF (b kb:Nat):Fct:=bW_ b (.cells [zp_ kb 0].toArray 109 (0,0))
def lFn (b bk:Nat):Value:=.func (.func 154) #[] #[zp_ b 0,zp_ bk 0]
def lF (b bk:Nat):Fct:=bW_ b (.cells [lFn b bk].toArray 145 (0,0))
def rFn (b bk:Nat):Value:=.func (.func 155) #[] #[zp_ bk 0,zp_ b 0]
def rcF (b bk:Nat):Fct:=bW_ b (.cells [rFn b bk].toArray 145 (0,0))
theorem xF_ (kb:Nat):Tri Tryz.prog 109 #[zp_ kb 0] [] [] (fun x:Nat×Nat×Nat=>.tuple #[lFn x.2.1 x.1,rFn x.2.2 x.1]) (fun _=>[]) (fun x=>[kF x.1 kb,lF x.2.1 x.1,rcF x.2.2 x.1]):=by
  refine i_ Tryz.func109 rfl rfl Tryz.ntmps109 rfl fun y=>?_;refine Zz 2 ?_;refine aa_ rfl rfl fun d=>G_ Tryz.zeroValue145 rfl fun e=>G_ Tryz.zeroValue145 rfl fun k=>Zz 4 ?_
  refine e_ (bK_ rfl rfl) rfl (u_ 1 Tryz.sizeOf145 rfl rfl rfl rfl rfl rfl (Zz 4 ?_));refine e_ (bK_ rfl rfl) rfl (u_ 0 Tryz.sizeOf145 rfl rfl rfl rfl rfl rfl (Zz 4 ?_));refine K_ 2 [0,1] zk zs (Zz 3 ?_);refine s_ 2 rfl zk (u_ 1 Tryz.sizeOf145 rfl rfl rfl rfl rfl rfl (Zz 3 ?_));refine s_ 3 rfl zk (u_ 0 Tryz.sizeOf145 rfl rfl rfl rfl rfl rfl (Zz 6 ?_));refine iy_ 0 rfl ?_;refine iy_ 0 rfl ?_;refine iy_ 0 rfl ?_;exact retG (d,e,k) (fun a v m q h=>xO_ Tryz.results109 jQ_ jQ_ m rfl rfl (np_ (cs:=[lFn e d]) 0 h.2.1 rfl) (np_ (cs:=[rFn k d]) 0 h.2.2.1 rfl)) (F:=[]) (.refl _) zf
theorem Con.mem_tail {c:Con} (d:c.ok) {v:Vw} (h:c.mem v):bx_ v (sad c.ad c.cap 1 5) ((c.parts.drop 1).flatMap Con.cells):=by
  have:=((Con.mem_iff c v).1 h).1.slice Con.cells_len (Con.ok_len d).1 1 c.parts.length;rwa [List.take_of_length_le zB_]at this
theorem Con.drop_at {ps:List Con} {p:Con} {i:Nat} (d:ps[i]? = some p):ps.drop i=p::ps.drop (i+1):=by
  have hi:=(List.getElem?_eq_some_iff.1 d).1;rw[List.getElem?_eq_getElem hi]at d;simp only[Option.some.injEq]at d;subst d;exact List.drop_eq_getElem_cons hi
theorem Con.szs_append:∀ (d ys:List Con),Con.sz.szs (d++ys)=Con.sz.szs d+Con.sz.szs ys
  | [],ys=>by simp[Con.sz.szs]
  | x::d,ys=>by simp only[List.cons_append,Con.sz.szs,Con.szs_append d ys];omega
theorem Con.sz_at {ps:List Con} {p:Con} {i:Nat} (d:ps[i]? = some p):Con.sz.szs (ps.take i)+p.sz≤Con.sz.szs ps:=by
  have e:Con.sz.szs ps=Con.sz.szs (ps.take i++(p::ps.drop (i+1))):=by rw[← Con.drop_at d,List.take_append_drop]
  rw[e,Con.szs_append];simp only[Con.sz.szs];omega
theorem Con.lefts_len (frm:Int) (ps:List Con) (i:Nat) (l:List Pc):(Con.leftP.lefts frm (ps.take i) l).length+(ps.take i).length≤l.length+2*Con.sz.szs (ps.take i):=by
  generalize ps.take i=qs
  induction qs generalizing l with
  | nil=>simp[Con.leftP.lefts]
  | cons p qs ih =>
    have e:=Con.leftP_len frm _ p (Nat.le_refl _) l;have d:=ih (p.leftP frm l);simp only[Con.leftP.lefts,Con.sz.szs,List.length_cons];omega
theorem Con.rights_len (frm:Int) (a:Str) (ps:List Con) (i:Nat) (l:List Pc):(Con.rightP.rights frm a (ps.take i) l).length≤l.length+2*Con.sz.szs (ps.take i):=by
  generalize ps.take i=qs
  induction qs generalizing l with
  | nil=>simp[Con.rightP.rights]
  | cons p qs ih =>
    have e:=bw_ frm l ⟨1,a,[],p.atom,[],[],[],0,0,0⟩;have d:=Con.rightP_len frm _ p (Nat.le_refl _) (ins frm l ⟨1,a,[],p.atom,[],[],[],0,0,0⟩);have h:=ih (p.rightP frm (ins frm l ⟨1,a,[],p.atom,[],[],[],0,0,0⟩));simp only[Con.rightP.rights,Con.sz.szs];omega
theorem Con.headD_atom {ps:List Con} {p:Con} (d:ps[0]? = some p):(ps.map Con.atom).headD []=p.atom:=by cases ps<;>simp_all
theorem Con.leftP5 {c:Con} (h:c.kind=5) (frm:Int) (l:List Pc):c.leftP frm l=Con.andP frm c (c.parts.drop 1) 1 ((c.parts.map Con.atom).headD []) (Con.leftP.lefts frm c.parts l):=by rw[Con.leftP_eq,if_pos h]
theorem Con.leftP6 {c p:Con} (h:c.kind=6) (d:c.parts=[p]) (frm:Int) (l:List Pc):c.leftP frm l=ins frm (p.leftP frm l) ⟨4,p.atom,[],c.atom,c.name,[],[],0,0,0⟩:=by
  rw[Con.leftP_eq,if_neg zs_,if_pos h,d];rfl
theorem Con.leftP7 {c:Con} (h:c.kind=7) (frm:Int) (l:List Pc):c.leftP frm l=ins frm l ⟨9,[],[],c.atom,c.name,[],[],c.lo,c.hi,0⟩:=by rw[Con.leftP_eq,if_neg zs_,if_neg zs_,if_pos h]
theorem Con.leftP0 {c:Con} (h:c.kind≠5) (e:c.kind≠6) (d:c.kind≠7) (frm:Int) (l:List Pc):c.leftP frm l=l:=by rw[Con.leftP_eq,if_neg h,if_neg e,if_neg d]
theorem Con.rightP5 {c:Con} (h:c.kind=5) (frm:Int) (l:List Pc):c.rightP frm l=Con.rightP.rights frm c.atom c.parts l:=by rw[Con.rightP_eq,if_pos h]
theorem Con.rightP6 {c p:Con} (h:c.kind=6) (d:c.parts=[p]) (frm:Int) (l:List Pc):c.rightP frm l=p.rightP frm (ins frm l ⟨3,c.atom,[],p.atom,c.name,[],[],0,0,0⟩):=by
  rw[Con.rightP_eq,if_neg zs_,if_pos h,d];rfl
theorem Con.rightP7 {c:Con} (h:c.kind=7) (frm:Int) (l:List Pc):c.rightP frm l=ins frm l ⟨8,c.atom,[],[],c.name,[],[],c.lo,c.hi,0⟩:=by rw[Con.rightP_eq,if_neg zs_,if_neg zs_,if_pos h]
theorem Con.rightP0 {c:Con} (h:c.kind≠5) (e:c.kind≠6) (d:c.kind≠7) (frm:Int) (l:List Pc):c.rightP frm l=l:=by rw[Con.rightP_eq,if_neg h,if_neg e,if_neg d]
end Go.Proofs.YtpbnmnfdgckaiaaGreatDoor
