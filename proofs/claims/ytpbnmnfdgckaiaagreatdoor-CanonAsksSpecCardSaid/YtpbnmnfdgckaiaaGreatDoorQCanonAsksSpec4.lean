/-
  Part of the proof of the law CanonAsksSpec over this seat: the small logic, the data, the contracts of functions (no condition).
-/
import Derived.Test.YtpbnmnfdgckaiaaGreatDoorQCanonAsksSpec3
import Derived.Test.YtpbnmnfdgckaiaaGreatDoorQCanonAsksSpec2
import Derived.Test.YtpbnmnfdgckaiaaGreatDoorProg
set_option linter.unusedVariables false
set_option linter.unusedSimpArgs false
set_option linter.unusedSectionVars false
set_option maxHeartbeats 1000000
namespace Go.Proofs.YtpbnmnfdgckaiaaGreatDoor
open Go Go.Sx Go.Proofs
attribute [local irreducible] Code.wp wpList wpAnyH
open Go.Vs
theorem mq_ {G:Prop} (h:G:=by
 refine Zz 7 ?_;exact met ⟨rfl,rfl,rfl,rfl,rfl,rfl,rfl,rfl,rfl,rfl,rfl,rfl,rfl,rfl,(m_ rfl (jaf J)),trivial⟩):G:=h
theorem jm_ {G:Prop} (h:G:=by
 exact met ⟨rfl,rfl,rfl,rfl,rfl,rfl,rfl,rfl,rfl,rfl,rfl,rfl,(m_ rfl (jot d)),trivial⟩):G:=h
theorem he_ {G:Prop} (h:G:=by
 exact met ⟨rfl,rfl,rfl,rfl,rfl,rfl,rfl,rfl,rfl,rfl,rfl,rfl,rfl,(m_ rfl (jot d)),trivial⟩):G:=h
theorem es_ {G:Prop} (h:G:=by
 exact Y_ Tryz.results102 () (cd_ rfl (by unfold Con.fieldErr;simp only[Con.kind,Con.parts,Con.name,Con.lo,Con.hi];simp only[Q];repeat (first|rfl|exact (if_pos za_).symm|(rw[if_pos zD_];first|done|rfl)|(rw[if_neg zD_])))) (.refl _) zt):G:=h
theorem oe_ (c:Con) (a1:c.ok):Tri Tryz.prog 102 #[c.val] [] [cn_] (fun _:Unit=>.int .i64 c.fieldErr) (fun _=>[]) (fun _=>[]):=by
 obtain⟨k,nm,lo,hi,ad,cap,ps⟩:=c;have a3:=Con.ok_len a1;simp only[Con.parts,Con.cap]at a3;refine i_ Tryz.func102 rfl rfl Tryz.ntmps102 rfl fun v_1=>?_;refine Zz 2 ?_;refine V_ rfl rfl fun E=>Zz 8 ?_
 refine G_ (dg_ rfl rfl) rfl fun r_1 N=>Zz 1 ?_
 refine aj_ 4 ((decide (k<1))||(decide (7<k))) (fun r=>[(0,.agg (Con.cells (Con.mk k nm lo hi ad cap ps)).toArray),(1,zp_ E 0),(2,.int .i64 0),(11,.bool r)]) ?_ fun r_2 S=>?_
 ·cases r_1
  ·have d:=N
   replace N:=zdf N;try dsimp only[Con.kind,Con.parts,Con.name,Con.lo,Con.hi,Con.cap,Con.ad]at N
   refine Zz 5 ?_;refine G_ (dA_ rfl rfl) rfl fun a4 K=>Zz 3 ?_
   exact met (zm (jof d K))
  have d:=N;replace N:=zdt N;try dsimp only[Con.kind,Con.parts,Con.name,Con.lo,Con.hi,Con.cap,Con.ad]at N
  refine Zz 6 ?_;exact met ⟨rfl,rfl,rfl,(m_ rfl (jot d)),trivial⟩
 refine Zz 2 ?_;cases r_2
 ·simp at S
  try dsimp only[Con.kind,Con.parts,Con.name,Con.lo,Con.hi,Con.cap,Con.ad]at S
  obtain⟨x,hx⟩:∃ x,ez_[k.toNat]? = some x:=⟨_,List.getElem?_eq_getElem (show k.toNat<8 by omega)⟩;have Q:nd k=x:=by simp[nd,hx]
  obtain⟨F,M,L,xb⟩:=x;refine Zz 7 ?_;refine e_ (ea_ Tryz.runUnderlying201 Tryz.sizeOf200 rfl rfl zaO_ (by show k<(8:Int);omega)) rfl ?_;refine e_ (ae_ (ad:=some ⟨1,0,none⟩) (k:=k.toNat*4) (us:=sY_ (F,M,L,xb)) Tryz.isAgg200 Tryz.sizeOf200 rfl (fun v _ h=>h.1.1) (kM_ _) (fun j y hj=>by rw[kT_ sY_ 4 kM_ ez_ k.toNat j _ hx (by have:=(List.getElem?_eq_some_iff.1 hj).1;rwa [kM_]at this)];exact hj)) rfl ?_;refine E_ Tryz.zeroValue200 rfl fun G=>z_ 0 Tryz.sizeOf200 rfl rfl rfl rfl rfl rfl (Zz 10 ?_)
  refine G_ (dg_ rfl rfl) rfl fun a4 K=>Zz 1 ?_
  refine aj_ 7 ((decide ((ps.length:Int)<M))||(decide (L<(ps.length:Int)))) (fun r=>[(0,.agg (Con.cells (Con.mk k nm lo hi ad cap ps)).toArray),(1,zp_ E 0),(2,.int .i64 0),(11,.bool false),(12,zp_ E 0),(13,.int .i64 k),(14,.pointer (some (rad (some ⟨1,0,none⟩) (k.toNat*4)))),(15,.agg #[.int .i64 F,.int .i64 M,.int .i64 L,.bool xb]),(3,zp_ G 0),(29,.bool r)]) ?_ fun r_4 O=>?_
  ·cases a4
   ·have d:=K
    replace K:=zdf K;try dsimp only[Con.kind,Con.parts,Con.name,Con.lo,Con.hi,Con.cap,Con.ad]at K
    refine Zz 11 ?_;refine G_ (dA_ rfl rfl) rfl fun a2 P=>Zz 3 ?_
    exact met (zm (jof d P))
   have d:=K;replace K:=zdt K;try dsimp only[Con.kind,Con.parts,Con.name,Con.lo,Con.hi,Con.cap,Con.ad]at K
   refine Zz 9 ?_;exact met ⟨rfl,rfl,rfl,rfl,rfl,rfl,rfl,rfl,rfl,(m_ rfl (jot d)),trivial⟩
  refine Zz 1 ?_;refine aj_ 9 ((((decide ((ps.length:Int)<M))||(decide (L<(ps.length:Int)))))||(((F==0)&&(nm != [])))) (fun r=>[(0,.agg (Con.cells (Con.mk k nm lo hi ad cap ps)).toArray),(1,zp_ E 0),(2,.int .i64 0),(11,.bool false),(12,zp_ E 0),(13,.int .i64 k),(14,.pointer (some (rad (some ⟨1,0,none⟩) (k.toNat*4)))),(15,.agg #[.int .i64 F,.int .i64 M,.int .i64 L,.bool xb]),(3,zp_ G 0),(39,.bool r)]) ?_ fun a2 P=>?_
  ·cases r_4
   ·have d:=O
    simp at O
    try dsimp only[Con.kind,Con.parts,Con.name,Con.lo,Con.hi,Con.cap,Con.ad]at O
    refine Zz 5 ?_;refine G_ (br_ rfl rfl) rfl fun W e=>Zz 2 ?_
    refine aj_ 4 ((F==0)&&(nm != [])) (fun r=>[(0,.agg (Con.cells (Con.mk k nm lo hi ad cap ps)).toArray),(1,zp_ E 0),(2,.int .i64 0),(11,.bool false),(12,zp_ E 0),(13,.int .i64 k),(14,.pointer (some (rad (some ⟨1,0,none⟩) (k.toNat*4)))),(15,.agg #[.int .i64 F,.int .i64 M,.int .i64 L,.bool xb]),(3,zp_ G 0),(30,.bool false),(38,.bool r)]) ?_ fun X I=>?_
    ·cases W
     ·have J:=e
      replace e:=znb e;try dsimp only[Con.kind,Con.parts,Con.name,Con.lo,Con.hi,Con.cap,Con.ad]at e
      refine Zz 7 ?_;exact met ⟨rfl,rfl,rfl,rfl,rfl,rfl,rfl,rfl,rfl,rfl,(m_ rfl (jaf J)),trivial⟩
     have J:=e;replace e:=zeb e;try dsimp only[Con.kind,Con.parts,Con.name,Con.lo,Con.hi,Con.cap,Con.ad]at e
     refine Zz 5 ?_;refine G_ (cT_ rfl rfl) rfl fun V A=>Zz 4 ?_
     exact met ⟨rfl,rfl,rfl,rfl,rfl,rfl,rfl,rfl,rfl,rfl,(m_ rfl (jat J A)),trivial⟩
    refine Zz 3 ?_;exact met (zm (jof d I))
   have d:=O;simp at O
   try dsimp only[Con.kind,Con.parts,Con.name,Con.lo,Con.hi,Con.cap,Con.ad]at O
   refine Zz 11 ?_;exact met ⟨rfl,rfl,rfl,rfl,rfl,rfl,rfl,rfl,rfl,(m_ rfl (jot d)),trivial⟩
  refine Zz 2 ?_;cases a2
  ·simp at P
   try dsimp only[Con.kind,Con.parts,Con.name,Con.lo,Con.hi,Con.cap,Con.ad]at P
   refine Zz 10 ?_;cases xb
   ·try dsimp only[Con.kind,Con.parts,Con.name,Con.lo,Con.hi,Con.cap,Con.ad]at hxb
    refine Zz 5 ?_;refine G_ (cg_ rfl rfl) rfl fun W e=>Zz 1 ?_
    refine aj_ 4 ((lo != 0)||(hi != 0)) (fun r=>[(0,.agg (Con.cells (Con.mk k nm lo hi ad cap ps)).toArray),(1,zp_ E 0),(2,.int .i64 0),(11,.bool false),(12,zp_ E 0),(13,.int .i64 k),(14,.pointer (some (rad (some ⟨1,0,none⟩) (k.toNat*4)))),(15,.agg #[.int .i64 F,.int .i64 M,.int .i64 L,.bool false]),(3,zp_ G 0),(39,.bool false),(40,zp_ G 3),(41,.bool false),(64,.bool r)]) ?_ fun X I=>?_
    ·cases W
     ·have d:=e
      replace e:=iV_ e;try dsimp only[Con.kind,Con.parts,Con.name,Con.lo,Con.hi,Con.cap,Con.ad]at e
      refine Zz 5 ?_;refine G_ (cg_ rfl rfl) rfl fun V A=>Zz 3 ?_
      exact met (zm (jof d A))
     have d:=e;replace e:=iO_ e;try dsimp only[Con.kind,Con.parts,Con.name,Con.lo,Con.hi,Con.cap,Con.ad]at e
     refine Zz 6 ?_;exact jm_
    refine Zz 2 ?_;cases X
    ·simp at I
     try dsimp only[Con.kind,Con.parts,Con.name,Con.lo,Con.hi,Con.cap,Con.ad]at I
     refine Zz 8 ?_;refine G_ (br_ rfl rfl) rfl fun V A=>Zz 1 ?_
     refine aj_ 4 ((F==0)||(bi_ nm)) (fun r=>[(0,.agg (Con.cells (Con.mk k nm lo hi ad cap ps)).toArray),(1,zp_ E 0),(2,.int .i64 0),(11,.bool false),(12,zp_ E 0),(13,.int .i64 k),(14,.pointer (some (rad (some ⟨1,0,none⟩) (k.toNat*4)))),(15,.agg #[.int .i64 F,.int .i64 M,.int .i64 L,.bool false]),(3,zp_ G 0),(39,.bool false),(40,zp_ G 3),(41,.bool false),(64,.bool false),(72,.bool r)]) ?_ fun Y C=>?_
     ·cases V
      ·have d:=A
       replace A:=znb A;try dsimp only[Con.kind,Con.parts,Con.name,Con.lo,Con.hi,Con.cap,Con.ad]at A
       refine Zz 5 ?_;refine A_ (gS_ nm) rfl (.refl _) zt rfl fun T B=>Zz 3 ?_
       exact met (zm (jof d B))
      have d:=A;replace A:=zeb A;try dsimp only[Con.kind,Con.parts,Con.name,Con.lo,Con.hi,Con.cap,Con.ad]at A
      refine Zz 6 ?_;exact he_
     refine Zz 1 ?_;refine aj_ 9 ((((F==0)||(bi_ nm)))||(((F==2)&&(cR_ nm)))) (fun r=>[(0,.agg (Con.cells (Con.mk k nm lo hi ad cap ps)).toArray),(1,zp_ E 0),(2,.int .i64 0),(11,.bool false),(12,zp_ E 0),(13,.int .i64 k),(14,.pointer (some (rad (some ⟨1,0,none⟩) (k.toNat*4)))),(15,.agg #[.int .i64 F,.int .i64 M,.int .i64 L,.bool false]),(3,zp_ G 0),(39,.bool false),(40,zp_ G 3),(41,.bool false),(64,.bool false),(82,.bool r)]) ?_ fun T B=>?_
     ·cases Y
      ·have d:=C
       simp at C
       try dsimp only[Con.kind,Con.parts,Con.name,Con.lo,Con.hi,Con.cap,Con.ad]at C
       refine Zz 5 ?_;refine G_ (br_ rfl rfl) rfl fun U q=>Zz 2 ?_
       refine aj_ 4 ((F==2)&&(cR_ nm)) (fun r=>[(0,.agg (Con.cells (Con.mk k nm lo hi ad cap ps)).toArray),(1,zp_ E 0),(2,.int .i64 0),(11,.bool false),(12,zp_ E 0),(13,.int .i64 k),(14,.pointer (some (rad (some ⟨1,0,none⟩) (k.toNat*4)))),(15,.agg #[.int .i64 F,.int .i64 M,.int .i64 L,.bool false]),(3,zp_ G 0),(39,.bool false),(40,zp_ G 3),(41,.bool false),(64,.bool false),(73,.bool false),(81,.bool r)]) ?_ fun Z H=>?_
       ·cases U
        ·have J:=q
         replace q:=znb q;try dsimp only[Con.kind,Con.parts,Con.name,Con.lo,Con.hi,Con.cap,Con.ad]at q
         exact mq_
        have J:=q;replace q:=zeb q;try dsimp only[Con.kind,Con.parts,Con.name,Con.lo,Con.hi,Con.cap,Con.ad]at q
        refine Zz 5 ?_;refine A_ (hu_ nm (Con.ok_name a1)) rfl (.refl _) zt rfl fun r_13 R=>Zz 4 ?_
        exact met ⟨rfl,rfl,rfl,rfl,rfl,rfl,rfl,rfl,rfl,rfl,rfl,rfl,rfl,rfl,(m_ rfl (jat J R)),trivial⟩
       refine Zz 3 ?_;exact met (zm (jof d H))
      have d:=C;simp at C
      try dsimp only[Con.kind,Con.parts,Con.name,Con.lo,Con.hi,Con.cap,Con.ad]at C
      refine Zz 11 ?_;exact he_
     refine Zz 2 ?_;cases T
     ·simp at B
      try dsimp only[Con.kind,Con.parts,Con.name,Con.lo,Con.hi,Con.cap,Con.ad]at B
      refine Zz 9 ?_;exact es_
     simp at B
     try dsimp only[Con.kind,Con.parts,Con.name,Con.lo,Con.hi,Con.cap,Con.ad]at B
     refine Zz 7 ?_;exact es_
    simp at I
    try dsimp only[Con.kind,Con.parts,Con.name,Con.lo,Con.hi,Con.cap,Con.ad]at I
    refine Zz 7 ?_;exact es_
   try dsimp only[Con.kind,Con.parts,Con.name,Con.lo,Con.hi,Con.cap,Con.ad]at hxb
   refine Zz 5 ?_;refine G_ (dg_ rfl rfl) rfl fun W e=>Zz 1 ?_
   refine aj_ 6 ((decide (lo<(-1099511627776)))||(decide (hi<lo))) (fun r=>[(0,.agg (Con.cells (Con.mk k nm lo hi ad cap ps)).toArray),(1,zp_ E 0),(2,.int .i64 0),(11,.bool false),(12,zp_ E 0),(13,.int .i64 k),(14,.pointer (some (rad (some ⟨1,0,none⟩) (k.toNat*4)))),(15,.agg #[.int .i64 F,.int .i64 M,.int .i64 L,.bool true]),(3,zp_ G 0),(39,.bool false),(40,zp_ G 3),(41,.bool true),(51,.bool r)]) ?_ fun X I=>?_
   ·cases W
    ·have d:=e
     replace e:=zdf e;try dsimp only[Con.kind,Con.parts,Con.name,Con.lo,Con.hi,Con.cap,Con.ad]at e
     refine Zz 9 ?_;refine G_ (dA_ rfl rfl) rfl fun V A=>Zz 3 ?_
     exact met (zm (jof d A))
    have d:=e;replace e:=zdt e;try dsimp only[Con.kind,Con.parts,Con.name,Con.lo,Con.hi,Con.cap,Con.ad]at e
    refine Zz 8 ?_;exact jm_
   refine Zz 1 ?_;refine aj_ 4 ((((decide (lo<(-1099511627776)))||(decide (hi<lo))))||(decide (1099511627776<hi))) (fun r=>[(0,.agg (Con.cells (Con.mk k nm lo hi ad cap ps)).toArray),(1,zp_ E 0),(2,.int .i64 0),(11,.bool false),(12,zp_ E 0),(13,.int .i64 k),(14,.pointer (some (rad (some ⟨1,0,none⟩) (k.toNat*4)))),(15,.agg #[.int .i64 F,.int .i64 M,.int .i64 L,.bool true]),(3,zp_ G 0),(39,.bool false),(40,zp_ G 3),(41,.bool true),(56,.bool r)]) ?_ fun V A=>?_
   ·cases X
    ·have d:=I
     simp at I
     try dsimp only[Con.kind,Con.parts,Con.name,Con.lo,Con.hi,Con.cap,Con.ad]at I
     refine Zz 5 ?_;refine G_ (dA_ rfl rfl) rfl fun Y C=>Zz 3 ?_
     exact met (zm (jof d C))
    have d:=I;simp at I
    try dsimp only[Con.kind,Con.parts,Con.name,Con.lo,Con.hi,Con.cap,Con.ad]at I
    refine Zz 6 ?_;exact jm_
   refine Zz 2 ?_;cases V
   ·simp at A
    try dsimp only[Con.kind,Con.parts,Con.name,Con.lo,Con.hi,Con.cap,Con.ad]at A
    refine Zz 8 ?_;refine G_ (br_ rfl rfl) rfl fun Y C=>Zz 1 ?_
    refine aj_ 4 ((F==0)||(bi_ nm)) (fun r=>[(0,.agg (Con.cells (Con.mk k nm lo hi ad cap ps)).toArray),(1,zp_ E 0),(2,.int .i64 0),(11,.bool false),(12,zp_ E 0),(13,.int .i64 k),(14,.pointer (some (rad (some ⟨1,0,none⟩) (k.toNat*4)))),(15,.agg #[.int .i64 F,.int .i64 M,.int .i64 L,.bool true]),(3,zp_ G 0),(39,.bool false),(40,zp_ G 3),(41,.bool true),(56,.bool false),(72,.bool r)]) ?_ fun T B=>?_
    ·cases Y
     ·have d:=C
      replace C:=znb C;try dsimp only[Con.kind,Con.parts,Con.name,Con.lo,Con.hi,Con.cap,Con.ad]at C
      refine Zz 5 ?_;refine A_ (gS_ nm) rfl (.refl _) zt rfl fun U q=>Zz 3 ?_
      exact met (zm (jof d q))
     have d:=C;replace C:=zeb C;try dsimp only[Con.kind,Con.parts,Con.name,Con.lo,Con.hi,Con.cap,Con.ad]at C
     refine Zz 6 ?_;exact he_
    refine Zz 1 ?_;refine aj_ 9 ((((F==0)||(bi_ nm)))||(((F==2)&&(cR_ nm)))) (fun r=>[(0,.agg (Con.cells (Con.mk k nm lo hi ad cap ps)).toArray),(1,zp_ E 0),(2,.int .i64 0),(11,.bool false),(12,zp_ E 0),(13,.int .i64 k),(14,.pointer (some (rad (some ⟨1,0,none⟩) (k.toNat*4)))),(15,.agg #[.int .i64 F,.int .i64 M,.int .i64 L,.bool true]),(3,zp_ G 0),(39,.bool false),(40,zp_ G 3),(41,.bool true),(56,.bool false),(82,.bool r)]) ?_ fun U q=>?_
    ·cases T
     ·have d:=B
      simp at B
      try dsimp only[Con.kind,Con.parts,Con.name,Con.lo,Con.hi,Con.cap,Con.ad]at B
      refine Zz 5 ?_;refine G_ (br_ rfl rfl) rfl fun Z H=>Zz 2 ?_
      refine aj_ 4 ((F==2)&&(cR_ nm)) (fun r=>[(0,.agg (Con.cells (Con.mk k nm lo hi ad cap ps)).toArray),(1,zp_ E 0),(2,.int .i64 0),(11,.bool false),(12,zp_ E 0),(13,.int .i64 k),(14,.pointer (some (rad (some ⟨1,0,none⟩) (k.toNat*4)))),(15,.agg #[.int .i64 F,.int .i64 M,.int .i64 L,.bool true]),(3,zp_ G 0),(39,.bool false),(40,zp_ G 3),(41,.bool true),(56,.bool false),(73,.bool false),(81,.bool r)]) ?_ fun r_13 R=>?_
      ·cases Z
       ·have J:=H
        replace H:=znb H;try dsimp only[Con.kind,Con.parts,Con.name,Con.lo,Con.hi,Con.cap,Con.ad]at H
        exact mq_
       have J:=H;replace H:=zeb H;try dsimp only[Con.kind,Con.parts,Con.name,Con.lo,Con.hi,Con.cap,Con.ad]at H
       refine Zz 5 ?_;refine A_ (hu_ nm (Con.ok_name a1)) rfl (.refl _) zt rfl fun r_14 a0=>Zz 4 ?_
       exact met ⟨rfl,rfl,rfl,rfl,rfl,rfl,rfl,rfl,rfl,rfl,rfl,rfl,rfl,rfl,(m_ rfl (jat J a0)),trivial⟩
      refine Zz 3 ?_;exact met (zm (jof d R))
     have d:=B;simp at B
     try dsimp only[Con.kind,Con.parts,Con.name,Con.lo,Con.hi,Con.cap,Con.ad]at B
     refine Zz 11 ?_;exact he_
    refine Zz 2 ?_;cases U
    ·simp at q
     try dsimp only[Con.kind,Con.parts,Con.name,Con.lo,Con.hi,Con.cap,Con.ad]at q
     refine Zz 9 ?_;exact es_
    simp at q
    try dsimp only[Con.kind,Con.parts,Con.name,Con.lo,Con.hi,Con.cap,Con.ad]at q
    refine Zz 7 ?_;exact es_
   simp at A
   try dsimp only[Con.kind,Con.parts,Con.name,Con.lo,Con.hi,Con.cap,Con.ad]at A
   refine Zz 7 ?_;exact es_
  simp at P
  try dsimp only[Con.kind,Con.parts,Con.name,Con.lo,Con.hi,Con.cap,Con.ad]at P
  refine Zz 7 ?_;exact es_
 simp at S
 try dsimp only[Con.kind,Con.parts,Con.name,Con.lo,Con.hi,Con.cap,Con.ad]at S
 refine Zz 7 ?_;exact Y_ Tryz.results102 () (cd_ rfl (by unfold Con.fieldErr;simp only[Con.kind,Con.parts,Con.name,Con.lo,Con.hi];repeat (first|rfl|exact (if_pos za_).symm|(rw[if_pos zD_];first|done|rfl)|(rw[if_neg zD_])))) (.refl _) zt
theorem xb_ {σ τ:Type} {l:Nat} {H:σ→Hp} {Q:τ→Hp} {stp:Con→σ→σ ⊕ τ} {E:List Fct} {good:Con→Prop} (B:∀ c p,good c→p∈c.parts→good p)
    (S:∀ s x,x.ok→good x→jc_ Tryz.prog l x.val (H s) (x.memF::E) (fun _:Unit=>.bool (stp x s).isLeft) (fun _=>nC_ H Q (stp x s)) (fun _=>[])) :
    ∀ (m:Nat) (c:Con),c.sz≤m→c.ok→good c→∀ (s:σ) r,Con.fold stp c s=r →
    Tri Tryz.prog 149 #[c.val,.func (.yield l) #[] #[]] (H s) (c.memF::E) (fun _:Unit=>.bool r.isLeft) (fun _=>nC_ H Q r) (fun _=>[]):=by
  intro m
  induction m with
  | zero=>intro c h;have:=c.sz_pos;omega
  | succ m ih =>
    intro c hm e R s r N;obtain⟨k,nm,lo,hi,ad,cap,ps⟩:=c;have J:=Con.ok_len e;simp only[Con.parts,Con.cap]at J;have K:∀ p∈ps,good p:=fun p C=>B _ p R C
    refine i_ Tryz.func149 rfl rfl Tryz.ntmps149 rfl fun T=>?_;refine Zz 2 ?_;refine V_ rfl rfl fun A=>Zz 5 ?_
    rcases hfc:stp (.mk k nm lo hi ad cap ps) s with G|L
    · skip
      refine jS_ (ι:=Unit) (fun _=>[(1,.func (.yield l) #[] #[]),(2,zp_ A 0),(10,.bool false)]) (fun _=>(A,.cells (Con.mk k nm lo hi ad cap ps).cells.toArray 40 (0,0))::H G) (fun _=>[(Con.mk k nm lo hi ad cap ps).memF]++E) ?_ fun _=>?_
      · skip
        refine aJ_ ?_;refine U_ cY_ (al_ rfl) rfl rfl ?_;refine U_ cY_ (dd_ (c:=.mk k nm lo hi ad cap ps) 0 aN_ M_ rfl rfl) rfl rfl ?_;refine hs_ (S s _ e R) rfl rfl (@List.perm_append_comm _ [_] _) (fun v _ h=>h) rfl fun _=>?_;rw[hfc];refine U_ cY_ (as_ rfl) rfl rfl ?_;refine bp_ ?_;refine dp_ rfl ?_;exact fi_ () zl (F:=[]) zN_ zh
      · skip
        refine Zz 14 ?_;refine bJ_ [(1,.func (.yield l) #[] #[]),(12,.slice ad ps.length cap),(13,.int .i64 (ps.length:Int)),(14,.int .i64 ((0:Nat):Int))] zl ?_;refine ci_ (ι:={q:Nat×σ // q.1≤ps.length∧Con.fold.folds stp (ps.take q.1) G=.inl q.2}) (fun i=>[(1,.func (.yield l) #[] #[]),(12,.slice ad ps.length cap),(13,.int .i64 (ps.length:Int)),(14,.int .i64 (i.1.1:Int))]) (fun i=>_::H i.1.2) (fun _=>_) (fun i=>ps.length - i.1.1) ⟨(0,G),by simp[Con.fold.folds]⟩ ?_;rintro ⟨⟨i,y⟩,hk⟩;refine bJ_ [(1,.func (.yield l) #[] #[]),(12,.slice ad ps.length cap),(13,.int .i64 (ps.length:Int)),(14,.int .i64 (i:Int))] zl ?_;refine Zj 2 (fun M=>?_) fun M=>?_
        · skip
          refine Zz 12 ?_;obtain rfl:r=.inl y:=by rw[← N,Con.fold_eq,hfc];exact Con.folds_yes (show ps.length≤i by omega) hk.2
          exact Y_ Tryz.results149 () rfl (@List.perm_append_comm _ [_] _) zt
        · skip
          have I:i<ps.length:=by omega
          obtain⟨p,C⟩:∃ p,ps[i]? = some p:=⟨_,List.getElem?_eq_getElem I⟩;have d:p∈ps:=List.mem_of_getElem? C;refine Zz 10 ?_;refine e_ (O_ ag_ M_ rfl rfl (fun v _ h=>Con.row_addr (c:=.mk k nm lo hi ad cap ps) h.1 C) za_ za_) rfl (e_ (ae_ (us:=p.cells) aN_ M_ rfl (fun v _ h=>((Con.mem_iff (.mk k nm lo hi ad cap ps) v).1 h.1).1) p.cells_len (Con.part_cells (c:=.mk k nm lo hi ad cap ps) (i:=i) C)) rfl (E_ bQ_ rfl fun U=>ff_ 0 M_ rfl rfl rfl rfl (Zz 3 ?_)));rcases hfp:Con.fold stp p y with O|P
          · skip
            refine aI_ (e_ (dd_ 0 aN_ M_ rfl rfl) rfl (Zz 1 ?_));refine j_ (ih p zaF_ (Con.ok_part (c:=.mk k nm lo hi ad cap ps) e d) (K p d) y _ hfp) rfl (@List.perm_append_comm _ [_,_] _) (fun v _ h=>⟨Con.mem_part (c:=.mk k nm lo hi ad cap ps) h.1 d,h.2⟩) rfl fun _=>?_;refine C_ (@List.perm_append_comm _ _ [_,_]) (e_ (as_ rfl) rfl (Zz 10 ?_));exact x_ ⟨(i+1,O),I,Con.folds_step C hk.2 hfp⟩ zn_ zl (F:=[_]) (@List.perm_append_comm _ [_] _) zh
          · skip
            refine aI_ (e_ (dd_ 0 aN_ M_ rfl rfl) rfl (Zz 1 ?_));refine j_ (ih p zaF_ (Con.ok_part (c:=.mk k nm lo hi ad cap ps) e d) (K p d) y _ hfp) rfl (@List.perm_append_comm _ [_,_] _) (fun v _ h=>⟨Con.mem_part (c:=.mk k nm lo hi ad cap ps) h.1 d,h.2⟩) rfl fun _=>?_;refine C_ (@List.perm_append_comm _ _ [_,_]) (e_ (as_ rfl) rfl (Zz 9 ?_));obtain rfl:r=.inr P:=by rw[← N,Con.fold_eq,hfc];exact Con.folds_no C hk.2 hfp
            exact Y_ Tryz.results149 () rfl (@List.perm_append_comm _ [_,_] _) zt
    · skip
      refine jS_ (ι:=Unit) (fun _=>[(1,.func (.yield l) #[] #[]),(2,zp_ A 0),(10,.bool true)]) (fun _=>(A,.cells (Con.mk k nm lo hi ad cap ps).cells.toArray 40 (0,0))::Q L) (fun _=>[(Con.mk k nm lo hi ad cap ps).memF]++E) ?_ fun _=>?_
      · skip
        refine aJ_ ?_;refine U_ cY_ (al_ rfl) rfl rfl ?_;refine U_ cY_ (dd_ (c:=.mk k nm lo hi ad cap ps) 0 aN_ M_ rfl rfl) rfl rfl ?_;refine hs_ (S s _ e R) rfl rfl (@List.perm_append_comm _ [_] _) (fun v _ h=>h) rfl fun _=>?_;rw[hfc];refine U_ cY_ (as_ rfl) rfl rfl ?_;refine bp_ ?_;refine dp_ rfl ?_;exact fi_ () zl (F:=[]) zN_ zh
      · skip
        refine Zz 8 ?_;obtain rfl:r=.inr L:=by rw[← N,Con.fold_eq,hfc]
        exact Y_ Tryz.results149 () rfl (@List.perm_append_comm _ [_] _) zt
theorem uL_ (c:Con) :
    Tri Tryz.prog 101 #[c.val] [] [] (fun b:Nat=>.func (.func 148) #[] #[zp_ b 0]) (fun b=>[(b,.cells c.cells.toArray 40 (0,0))]) (fun _=>[]):=by
  refine i_ Tryz.func101 rfl rfl Tryz.ntmps101 rfl fun e=>?_;refine Zz 2 ?_;refine V_ rfl rfl fun d=>Zz 5 ?_
  refine e_ (bF_ rfl rfl) rfl (Zz 4 ?_);exact Y_ Tryz.results101 d rfl (F:=[]) (.refl _) zt
theorem sH_ {σ τ:Type} {l b:Nat} {e:σ→Hp} {y:τ→Hp} {stp:Con→σ→σ ⊕ τ} {E:List Fct} {good:Con→Prop} (d:∀ c p,good c→p∈c.parts→good p)
    (A:∀ s x,x.ok→good x→jc_ Tryz.prog l x.val (e s) (x.memF::E) (fun _:Unit=>.bool (stp x s).isLeft) (fun _=>nC_ e y (stp x s)) (fun _=>[]))
    (c:Con) (q:c.ok) (B:good c) (s:σ) :
    Tri Tryz.prog 148 #[.func (.yield l) #[] #[],zp_ b 0] ((b,.cells c.cells.toArray 40 (0,0))::e s) (c.memF::E) (fun _:Unit=>.tuple #[]) (fun _=>(b,.cells c.cells.toArray 40 (0,0))::nC_ e y (Con.fold stp c s)) (fun _=>[]):=by
  refine i_ Tryz.func148 rfl rfl Tryz.ntmps148 rfl fun C=>?_;refine aI_ (e_ (dd_ (c:=c) 0 aN_ M_ rfl rfl) rfl (Zz 1 ?_));refine j_ (xb_ d A _ c (Nat.le_refl _) q B s _ rfl) rfl (@List.perm_append_comm _ [_] _) (fun v _ h=>h) rfl fun _=>Zz 2 ?_
  exact cp_ Tryz.results148 () rfl (F:=[]) zN_ zt
theorem mp_ {G:Prop} (h:G:=by
 exact yM_ (G:=[_,_,_]) () (fun a v y A=>by rw[← R];exact qt_ 1 Tryz.results63 Tryz.isAgg29 rfl rfl a v y A) (gs_ (i:=3) rfl) ⟨_,.refl _⟩ rfl):G:=h
theorem eN_ (c:Con) (K:c.ok):Tri Tryz.prog 63 #[c.val] [] [c.memF,cn_] (fun _:Unit=>.int .i64 c.check) (fun _=>[]) (fun _=>[]):=by
 obtain⟨k,nm,lo,hi,ad,cap,ps⟩:=c;refine hj_ Tryz.func63 rfl rfl Tryz.ntmps63 rfl fun J=>?_;refine Zz 2 ?_;refine V_ rfl rfl fun U=>E_ Tryz.zeroValue29 rfl fun e=>Zz 4 ?_
 refine E_ kA_ rfl fun L=>z_ 0 au_ rfl rfl rfl rfl rfl rfl (Zz 6 ?_)
 refine nf_ 0 (fits_c _ (.mk k nm lo hi ad cap ps) (Nat.le_refl _) K 0 0 L za_ za_ _ rfl) rfl rfl zf rfl fun O C=>e_ (as_ rfl) rfl (Zz 2 ?_)
 cases O
 ·try dsimp only[Con.kind,Con.parts,Con.name,Con.lo,Con.hi,Con.cap,Con.ad]at C
  refine Zz 3 ?_;refine z_ 1 Tryz.sizeOf29 rfl rfl rfl rfl rfl rfl (Zz 3 ?_);exact retM () (fun a v y A _=>by rw[qt_ 1 Tryz.results63 Tryz.isAgg29 rfl rfl a v y A];simp[Con.check, *]) (.refl _) zt
 try dsimp only[Con.kind,Con.parts,Con.name,Con.lo,Con.hi,Con.cap,Con.ad]at C
 refine Zz 7 ?_;refine j_ (uL_ (.mk k nm lo hi ad cap ps)) rfl (.refl _) zt rfl fun b=>Zz 3 ?_
 refine bJ_ [(2,zp_ e 0),(10,.func (.func 148) #[] #[zp_ b 0])] zl ?_;refine dN_ (H':=[_,_]) (F:=[_,_]) (.cons _ (.swap _ _ _)) zh ?_;refine tJ_ (α:={c:Con // c.ok}) (xv:=fun x=>x.1.val) (good:=fun _=>True) (stp:=fun x=>Con.chk x.1) (Γx:=fun x=>[x.1.memF,cn_]) (Γi:=[Con.memF (.mk k nm lo hi ad cap ps),cn_]) (Hj:=fun _:Unit=>[(e,.cells #[.int .i64 0] 29 (0,0))]) (Hx:=fun t:Int=>[(e,.cells #[.int .i64 t] 29 (0,0))]) (Hc:=[(b,.cells (Con.mk k nm lo hi ad cap ps).cells.toArray 40 (0,0))]) (caps:=[zp_ b 0]) () (Con.fold Con.chk (.mk k nm lo hi ad cap ps) ()) rfl (.refl _) (fun v _ h=>h) ?_ ?_ ?_ ?_
 ·rintro l D V Y S M W I H s ⟨x,P⟩ -
  refine mr_ (ι:=Nat) (Hj:=fun _:Unit=>[(e,.cells #[.int .i64 0] 29 (0,0))]) (Hx:=fun t:Int=>[(e,.cells #[.int .i64 t] 29 (0,0))]) (s:=s) (res:=Con.chk x s) (Γ:=[x.memF,cn_]) (fun q=>[(2,zp_ e 0),(4,zp_ q 0)]) (fun q=>[(q,.cells x.cells.toArray 40 (0,0)),(e,.cells #[.int .i64 0] 29 (0,0))]) Y S M W rfl ?_ ?_
  ·intro n J Q X
   rw[I];refine aJ_ ?_;refine ng_ (L_ _) bQ_ rfl fun q=>?_;refine qG_ (L_ _) 0 M_ rfl rfl rfl rfl ?_;refine bp_ ?_;refine dp_ rfl ?_;exact fi_ q zl (F:=[]) zT_ zh
  intro n J Q X q;rw[H];refine et_ ?_;refine cW_ ?_;refine aJ_ ?_;refine U_ (L_ _) (dd_ 0 aN_ M_ rfl rfl) rfl rfl ?_;refine uf_ (oe_ x P) rfl (.refl _) zf rfl fun _=>?_;refine U_ (L_ _) (ay_ rfl) rfl rfl ?_;refine bp_ ?_;refine cc_ rfl ?_;refine cW_ ?_;refine aJ_ ?_;refine U_ (L_ _) (al_ rfl) rfl rfl ?_;refine ud_ (L_ _) (cg_ rfl rfl) rfl rfl fun N d=>?_;refine bp_ ?_;refine cc_ rfl ?_;cases N
  ·replace d:=iV_ d
   try dsimp only[Con.kind,Con.parts,Con.name,Con.lo,Con.hi,Con.cap,Con.ad]at d
   refine lB_ rfl ?_;refine oq_ ?_;refine dp_ rfl ?_;exact fL_ () (by simp[Con.chk, *]) (G:=[_]) (@List.perm_append_comm _ [_] _)
  replace d:=iO_ d;try dsimp only[Con.kind,Con.parts,Con.name,Con.lo,Con.hi,Con.cap,Con.ad]at d
  refine fr_ rfl ?_;refine cW_ ?_;refine aJ_ ?_;refine U_ (L_ _) (al_ rfl) rfl rfl ?_;refine fU_ (L_ _) 1 Tryz.sizeOf29 rfl rfl rfl rfl rfl rfl ?_;refine bp_ ?_;refine cc_ rfl ?_;refine mQ_ ?_;exact tM_ x.fieldErr (by simp[Con.chk, *]) (G:=[_]) (@List.perm_append_comm _ [_] _)
 ·intro l Z Gx T
  exact sH_ (E:=[cn_]) (good:=fun _=>True) (fun _ _ _ _=>trivial) (fun s x P _=>T s ⟨x,P⟩ trivial) _ K trivial ()
 ·intro s B D l r
  rw[Con.fold_chk _ _ (Nat.le_refl _)]at B;refine cc_ rfl ?_;refine cW_ ?_;refine aJ_ ?_;refine fU_ cY_ 1 Tryz.sizeOf29 rfl rfl rfl rfl rfl rfl ?_;refine bp_ ?_;refine cc_ rfl ?_;refine mQ_ ?_;have R:(0:Int)=(Con.mk k nm lo hi ad cap ps).check:=by unfold Con.check;rw[if_pos zi_];split at B;(rename_i h;exact h.symm);cases B
  exact mp_
 intro t B D l r;rw[Con.fold_chk _ _ (Nat.le_refl _)]at B;have R:t=(Con.mk k nm lo hi ad cap ps).check:=by unfold Con.check;rw[if_pos zi_];split at B;cases B;injection B with B;exact B.symm
 exact mp_
theorem jl_ {G:Prop} (h:G:=by
 refine Zz 6 ?_;exact met ⟨rfl,rfl,rfl,(m_ rfl (jaf d)),trivial⟩):G:=h
theorem oI_ (c:Con):Fn0 Tryz.prog 98 #[c.val] (.bool c.empty):=by
 obtain⟨k,nm,lo,hi,ad,cap,ps⟩:=c;refine i_ Tryz.func98 rfl rfl Tryz.ntmps98 rfl fun J=>?_;refine Zz 2 ?_;refine V_ rfl rfl fun A=>Zz 7 ?_
 refine G_ (br_ rfl rfl) rfl fun H q=>Zz 1 ?_
 refine aj_ 4 ((k==0)&&(nm==[])) (fun r=>[(0,.agg (Con.cells (Con.mk k nm lo hi ad cap ps)).toArray),(1,zp_ A 0),(2,.bool false),(10,.bool r)]) ?_ fun G x=>?_
 ·cases H
  ·have d:=q
   replace q:=znb q;try dsimp only[Con.kind,Con.parts,Con.name,Con.lo,Con.hi,Con.cap,Con.ad]at q
   exact jl_
  have d:=q;replace q:=zeb q;try dsimp only[Con.kind,Con.parts,Con.name,Con.lo,Con.hi,Con.cap,Con.ad]at q
  refine Zz 5 ?_;refine G_ (df_ rfl rfl) rfl fun B h=>Zz 3 ?_
  exact met ⟨rfl,rfl,rfl,(m_ rfl (jat d h)),trivial⟩
 refine Zz 1 ?_;refine aj_ 4 ((((k==0)&&(nm==[])))&&(lo==0)) (fun r=>[(0,.agg (Con.cells (Con.mk k nm lo hi ad cap ps)).toArray),(1,zp_ A 0),(2,.bool false),(15,.bool r)]) ?_ fun B h=>?_
 ·cases G
  ·have d:=x
   simp at x
   try dsimp only[Con.kind,Con.parts,Con.name,Con.lo,Con.hi,Con.cap,Con.ad]at x
   exact jl_
  have d:=x;simp at x
  try dsimp only[Con.kind,Con.parts,Con.name,Con.lo,Con.hi,Con.cap,Con.ad]at x
  refine Zz 5 ?_;refine G_ (br_ rfl rfl) rfl fun E e=>Zz 3 ?_
  exact met ⟨rfl,rfl,rfl,(m_ rfl (jat d e)),trivial⟩
 refine Zz 1 ?_;refine aj_ 4 ((((((k==0)&&(nm==[])))&&(lo==0)))&&(hi==0)) (fun r=>[(0,.agg (Con.cells (Con.mk k nm lo hi ad cap ps)).toArray),(1,zp_ A 0),(2,.bool false),(20,.bool r)]) ?_ fun E e=>?_
 ·cases B
  ·have d:=h
   simp at h
   try dsimp only[Con.kind,Con.parts,Con.name,Con.lo,Con.hi,Con.cap,Con.ad]at h
   exact jl_
  have d:=h;simp at h
  try dsimp only[Con.kind,Con.parts,Con.name,Con.lo,Con.hi,Con.cap,Con.ad]at h
  refine Zz 5 ?_;refine G_ (br_ rfl rfl) rfl fun F y=>Zz 3 ?_
  exact met ⟨rfl,rfl,rfl,(m_ rfl (jat d y)),trivial⟩
 refine Zz 1 ?_;refine aj_ 5 ((((((((k==0)&&(nm==[])))&&(lo==0)))&&(hi==0)))&&((ps.length:Int)==0)) (fun r=>[(0,.agg (Con.cells (Con.mk k nm lo hi ad cap ps)).toArray),(2,.bool false),(26,.bool r)]) ?_ fun F y=>?_
 ·cases E
  ·have d:=e
   simp at e
   try dsimp only[Con.kind,Con.parts,Con.name,Con.lo,Con.hi,Con.cap,Con.ad]at e
   refine Zz 7 ?_;exact met ⟨rfl,rfl,(m_ rfl (jaf d)),trivial⟩
  have d:=e;simp at e
  try dsimp only[Con.kind,Con.parts,Con.name,Con.lo,Con.hi,Con.cap,Con.ad]at e
  refine Zz 7 ?_;refine G_ (br_ rfl rfl) rfl fun I C=>Zz 3 ?_
  exact met ⟨rfl,rfl,(m_ rfl (jat d C)),trivial⟩
 refine Zz 4 ?_;exact Y_ Tryz.results98 () (m_ rfl y.symm) (.refl _) zt
theorem py_ {g:FuncId} {pred:Con→Bool} (c:Con) (C:c.ok) (G:∀ p∈c.parts,Tri Tryz.prog g #[p.val] [] [p.memF] (fun _:Unit=>.bool (pred p)) (fun _=>[]) (fun _=>[])) :
    Tri Tryz.prog 150 #[.slice c.ad c.parts.length c.cap,.func (.func g) #[] #[]] [] [c.memF] (fun r:{r:Int // decide (0≤r)=c.parts.any pred}=>.int .i64 r.1) (fun _=>[]) (fun _=>[]):=by
  obtain⟨k,nm,lo,hi,ad,cap,ps⟩:=c;have y:=Con.ok_len C;simp only[Con.parts,Con.cap]at y;refine i_ Tryz.func150 rfl rfl Tryz.ntmps150 rfl fun F=>?_;refine Zz 14 ?_;refine bJ_ [(0,.slice ad ps.length cap),(1,.func (.func g) #[] #[]),(7,.int .i64 (ps.length:Int)),(8,.int .i64 ((0:Nat):Int))] zl ?_;refine ci_ (ι:={q:Nat // q≤ps.length∧(ps.take q).any pred=false}) (fun i=>[(0,.slice ad ps.length cap),(1,.func (.func g) #[] #[]),(7,.int .i64 (ps.length:Int)),(8,.int .i64 (i.1:Int))]) (fun _=>_) (fun _=>_) (fun i=>ps.length - i.1) ⟨0,by simp⟩ ?_;rintro ⟨i,hk⟩;refine bJ_ [(0,.slice ad ps.length cap),(1,.func (.func g) #[] #[]),(7,.int .i64 (ps.length:Int)),(8,.int .i64 (i:Int))] zl ?_;refine Zj 2 (fun A=>?_) fun A=>?_
  · skip
    refine Zz 12 ?_;exact Y_ Tryz.results150 ⟨-1,by have:=hk.2;rw[List.take_of_length_le za_]at this;show _=ps.any pred;rw[this];rfl⟩ rfl (.refl _) zt
  · skip
    have x:i<ps.length:=by omega
    obtain⟨p,B⟩:∃ p,ps[i]? = some p:=⟨_,List.getElem?_eq_getElem x⟩;have e:p∈ps:=List.mem_of_getElem? B;refine Zz 19 ?_;refine e_ (O_ ag_ M_ rfl rfl (fun v _ h=>aq_ (n:=5) Con.cells_len ze_ (((Con.mem_iff (.mk k nm lo hi ad cap ps) v).1 h.1).1) B) za_ zh_) rfl ?_;refine e_ (ae_ (ad:=ad) (us:=p.cells) aN_ M_ rfl (fun v _ h=>((Con.mem_iff (.mk k nm lo hi ad cap ps) v).1 h.1).1) (Con.cells_len _) (p_ Con.cells_len B)) rfl (bD_ (G p e) rfl rfl (.refl _) (fun v _ h=>by exact⟨Con.mem_part (c:=(.mk k nm lo hi ad cap ps)) h.1 e,trivial⟩) rfl fun E d=>Zz 2 ?_);cases E
    · skip
      try dsimp only[Con.kind,Con.parts,Con.name,Con.lo,Con.hi,Con.cap,Con.ad]at d
      refine Zz 8 ?_;exact x_ ⟨i+1,x,by rw[Con.take_snoc B,List.any_append,hk.2];simp[*]⟩ zn_ zl (.refl _) zh
    · skip
      try dsimp only[Con.kind,Con.parts,Con.name,Con.lo,Con.hi,Con.cap,Con.ad]at d
      refine Zz 8 ?_;exact Y_ Tryz.results150 ⟨(i:Int),by show _=ps.any pred;rw[show ps.any pred=true from List.any_eq_true.2 ⟨p,e,by assumption⟩];exact decide_eq_true za_⟩ rfl (.refl _) zt
theorem mb_ {g:FuncId} {pred:Con→Bool} (c:Con) (e:c.ok) (q:∀ p∈c.parts,Tri Tryz.prog g #[p.val] [] [p.memF] (fun _:Unit=>.bool (pred p)) (fun _=>[]) (fun _=>[])) :
    Tri Tryz.prog 103 #[.slice c.ad c.parts.length c.cap,.func (.func g) #[] #[]] [] [c.memF] (fun _:Unit=>.bool (c.parts.any pred)) (fun _=>[]) (fun _=>[]):=by
  obtain⟨k,nm,lo,hi,ad,cap,ps⟩:=c;refine i_ Tryz.func103 rfl rfl Tryz.ntmps103 rfl fun y=>?_;refine Zz 9 ?_;refine j_ (py_ (.mk k nm lo hi ad cap ps) e q) rfl (.refl _) (fun v _ h=>h) rfl fun x=>G_ (eD_ rfl rfl) rfl fun A d=>Zz 4 ?_
  exact Y_ Tryz.results103 () (m_ rfl (d.symm.trans x.2)) (.refl _) zt
theorem dQ_:∀ (m:Nat) (c:Con),c.sz≤m→c.ok→Tri Tryz.prog 64 #[c.val] [] [c.memF] (fun _:Unit=>.bool c.bare) (fun _=>[]) (fun _=>[]):=by
 intro m
 induction m with
 | zero=>intro c h;have:=c.sz_pos;omega
 | succ m ih =>
   intro c hm e;obtain⟨k,nm,lo,hi,ad,cap,ps⟩:=c;refine i_ Tryz.func64 rfl rfl Tryz.ntmps64 rfl fun A=>?_;refine Zz 2 ?_;refine V_ rfl rfl fun B=>Zj 13 (fun q=>?_) fun q=>?_
   · skip
     refine Zj 6 (fun d=>?_) fun d=>?_
     · skip
       refine Zz 12 ?_;exact Y_ Tryz.results64 () (m_ rfl zM_) (.refl _) zt
     · skip
       refine Zz 8 ?_;refine A_ (mb_ (pred:=Con.bare) (.mk k nm lo hi ad cap ps) e (fun p x=>ih p (by have:=Con.sz_part (c:=(.mk k nm lo hi ad cap ps)) x;omega) (Con.ok_part (c:=(.mk k nm lo hi ad cap ps)) e x))) rfl (.refl _) (fun v _ h=>h) rfl fun C y=>?_;refine Zz 4 ?_;exact Y_ Tryz.results64 () (m_ rfl zM_) (.refl _) zt
   · skip
     refine Zz 10 ?_;exact Y_ Tryz.results64 () (m_ rfl zM_) (.refl _) zt
theorem hd_ {G:Prop} (h:G:=by
 refine Zz 7 ?_;exact met ⟨rfl,rfl,rfl,rfl,rfl,rfl,rfl,rfl,rfl,rfl,(m_ rfl (jot rfl)),trivial⟩):G:=h
theorem eQ_ {G:Prop} (h:G:=by
 exact met ⟨rfl,rfl,rfl,rfl,rfl,rfl,rfl,rfl,rfl,(m_ rfl (jaf d)),trivial⟩):G:=h
theorem sf_ (x:Ax):Tri Tryz.prog 61 #[x.val] [] [cn_] (fun _:Unit=>.bool x.shaped) (fun _=>[]) (fun _=>[]):=by
 obtain⟨k,Z,⟨kl,I,Q,hl,al,cl,pl⟩,⟨L,K,R,J,N,O,P⟩,ad,cap,W,ro,a,b⟩:=x;refine i_ Tryz.func61 rfl rfl Tryz.ntmps61 rfl fun v_1=>?_;refine Zz 2 ?_;refine V_ rfl rfl fun e=>Zz 8 ?_
 refine G_ (dg_ rfl rfl) rfl fun a9 F=>Zz 1 ?_
 refine aj_ 4 ((decide (k<1))||(decide (9<k))) (fun r=>[(0,.agg (Ax.cells (Ax.mk k Z (Con.mk kl I Q hl al cl pl) (Con.mk L K R J N O P) ad cap W ro a b)).toArray),(1,zp_ e 0),(2,.bool false),(11,.bool r)]) ?_ fun a8 V=>?_
 ·cases a9
  ·have d:=F
   replace F:=zdf F;try dsimp only[Con.kind,Con.parts,Con.name,Con.lo,Con.hi,Con.cap,Con.ad]at F
   refine Zz 5 ?_;refine G_ (dA_ rfl rfl) rfl fun a5 E=>Zz 3 ?_
   exact met (zm (jof d E))
  have d:=F;replace F:=zdt F;try dsimp only[Con.kind,Con.parts,Con.name,Con.lo,Con.hi,Con.cap,Con.ad]at F
  refine Zz 6 ?_;exact met ⟨rfl,rfl,rfl,(m_ rfl (jot d)),trivial⟩
 refine Zz 2 ?_;cases a8
 ·simp at V
  try dsimp only[Con.kind,Con.parts,Con.name,Con.lo,Con.hi,Con.cap,Con.ad]at V
  obtain⟨u,hx⟩:∃ u,tD_[k.toNat]? = some u:=⟨_,List.getElem?_eq_getElem (show k.toNat<10 by omega)⟩;have b0:us k=u:=by simp[us,hx]
  obtain⟨M,H,S,T,ub,X,Y⟩:=u;refine Zz 7 ?_;refine e_ (ea_ Tryz.runUnderlying96 jE_ rfl rfl zaO_ (by show k<(10:Int);omega)) rfl ?_;refine e_ (ae_ (ad:=some ⟨0,0,none⟩) (us:=Use.cells ⟨M,H,S,T,ub,X,Y⟩) Tryz.isAgg95 jE_ rfl (fun v _ h=>h.1.2.1) (Use.cells_len _) (p_ Use.cells_len hx)) rfl (E_ Tryz.zeroValue95 rfl fun G=>z_ 0 jE_ rfl rfl rfl rfl rfl rfl (Zz 7 ?_));refine aj_ 4 ((M)||(Con.empty (.mk kl I Q hl al cl pl))) (fun r=>[(0,.agg (Ax.cells (Ax.mk k Z (Con.mk kl I Q hl al cl pl) (Con.mk L K R J N O P) ad cap W ro a b)).toArray),(1,zp_ e 0),(2,.bool false),(11,.bool false),(12,zp_ e 0),(13,.int .i64 k),(14,.pointer (some (rad (some ⟨0,0,none⟩) (k.toNat*7)))),(15,.agg #[.bool M,.bool H,.bool S,.bool T,.bool ub,.int .i64 X,.int .i64 Y]),(3,zp_ G 0),(22,.bool r)]) ?_ fun a5 E=>?_
  ·cases M
   ·try dsimp only[Con.kind,Con.parts,Con.name,Con.lo,Con.hi,Con.cap,Con.ad]at hul
    refine Zz 5 ?_;refine A_ (oI_ (.mk kl I Q hl al cl pl)) rfl (.refl _) zt rfl fun a7 B=>Zz 3 ?_
    exact met (zm (jof rfl B))
   try dsimp only[Con.kind,Con.parts,Con.name,Con.lo,Con.hi,Con.cap,Con.ad]at hul
   refine Zz 6 ?_;exact met ⟨rfl,rfl,rfl,rfl,rfl,rfl,rfl,rfl,rfl,(m_ rfl (jot rfl)),trivial⟩
  refine Zz 1 ?_;refine aj_ 8 ((((M)||(Con.empty (.mk kl I Q hl al cl pl))))&&(((H)||(Con.empty (.mk L K R J N O P))))) (fun r=>[(0,.agg (Ax.cells (Ax.mk k Z (Con.mk kl I Q hl al cl pl) (Con.mk L K R J N O P) ad cap W ro a b)).toArray),(1,zp_ e 0),(2,.bool false),(11,.bool false),(12,zp_ e 0),(13,.int .i64 k),(14,.pointer (some (rad (some ⟨0,0,none⟩) (k.toNat*7)))),(15,.agg #[.bool M,.bool H,.bool S,.bool T,.bool ub,.int .i64 X,.int .i64 Y]),(3,zp_ G 0),(31,.bool r)]) ?_ fun a7 B=>?_
  ·cases a5
   ·have d:=E
    simp at E
    try dsimp only[Con.kind,Con.parts,Con.name,Con.lo,Con.hi,Con.cap,Con.ad]at E
    refine Zz 10 ?_;exact eQ_
   have d:=E;simp at E
   try dsimp only[Con.kind,Con.parts,Con.name,Con.lo,Con.hi,Con.cap,Con.ad]at E
   refine Zz 6 ?_;refine aj_ 4 ((H)||(Con.empty (.mk L K R J N O P))) (fun r=>[(0,.agg (Ax.cells (Ax.mk k Z (Con.mk kl I Q hl al cl pl) (Con.mk L K R J N O P) ad cap W ro a b)).toArray),(1,zp_ e 0),(2,.bool false),(11,.bool false),(12,zp_ e 0),(13,.int .i64 k),(14,.pointer (some (rad (some ⟨0,0,none⟩) (k.toNat*7)))),(15,.agg #[.bool M,.bool H,.bool S,.bool T,.bool ub,.int .i64 X,.int .i64 Y]),(3,zp_ G 0),(23,.bool true),(30,.bool r)]) ?_ fun a4 C=>?_
   ·cases H
    ·try dsimp only[Con.kind,Con.parts,Con.name,Con.lo,Con.hi,Con.cap,Con.ad]at hur
     refine Zz 5 ?_;refine A_ (oI_ (.mk L K R J N O P)) rfl (.refl _) zt rfl fun a0 y=>Zz 4 ?_
     exact met (zm (jof rfl y))
    try dsimp only[Con.kind,Con.parts,Con.name,Con.lo,Con.hi,Con.cap,Con.ad]at hur
    exact hd_
   refine Zz 3 ?_;exact met ⟨rfl,rfl,rfl,rfl,rfl,rfl,rfl,rfl,rfl,(m_ rfl (jat d C)),trivial⟩
  refine Zz 1 ?_;refine aj_ 8 ((((((M)||(Con.empty (.mk kl I Q hl al cl pl))))&&(((H)||(Con.empty (.mk L K R J N O P))))))&&(((S)||(ro==[])))) (fun r=>[(0,.agg (Ax.cells (Ax.mk k Z (Con.mk kl I Q hl al cl pl) (Con.mk L K R J N O P) ad cap W ro a b)).toArray),(1,zp_ e 0),(2,.bool false),(11,.bool false),(12,zp_ e 0),(13,.int .i64 k),(14,.pointer (some (rad (some ⟨0,0,none⟩) (k.toNat*7)))),(15,.agg #[.bool M,.bool H,.bool S,.bool T,.bool ub,.int .i64 X,.int .i64 Y]),(3,zp_ G 0),(40,.bool r)]) ?_ fun a4 C=>?_
  ·cases a7
   ·have d:=B
    simp at B
    try dsimp only[Con.kind,Con.parts,Con.name,Con.lo,Con.hi,Con.cap,Con.ad]at B
    refine Zz 10 ?_;exact eQ_
   have d:=B;simp at B
   try dsimp only[Con.kind,Con.parts,Con.name,Con.lo,Con.hi,Con.cap,Con.ad]at B
   refine Zz 6 ?_;refine aj_ 4 ((S)||(ro==[])) (fun r=>[(0,.agg (Ax.cells (Ax.mk k Z (Con.mk kl I Q hl al cl pl) (Con.mk L K R J N O P) ad cap W ro a b)).toArray),(1,zp_ e 0),(2,.bool false),(11,.bool false),(12,zp_ e 0),(13,.int .i64 k),(14,.pointer (some (rad (some ⟨0,0,none⟩) (k.toNat*7)))),(15,.agg #[.bool M,.bool H,.bool S,.bool T,.bool ub,.int .i64 X,.int .i64 Y]),(3,zp_ G 0),(32,.bool true),(39,.bool r)]) ?_ fun a0 y=>?_
   ·cases S
    ·try dsimp only[Con.kind,Con.parts,Con.name,Con.lo,Con.hi,Con.cap,Con.ad]at huo
     refine Zz 5 ?_;refine G_ (df_ rfl rfl) rfl fun a1 A=>Zz 4 ?_
     exact met (zm (jof rfl A))
    try dsimp only[Con.kind,Con.parts,Con.name,Con.lo,Con.hi,Con.cap,Con.ad]at huo
    exact hd_
   refine Zz 3 ?_;exact met ⟨rfl,rfl,rfl,rfl,rfl,rfl,rfl,rfl,rfl,(m_ rfl (jat d y)),trivial⟩
  refine Zz 1 ?_;refine aj_ 8 ((((((((M)||(Con.empty (.mk kl I Q hl al cl pl))))&&(((H)||(Con.empty (.mk L K R J N O P))))))&&(((S)||(ro==[])))))&&(((T)||(a==[])))) (fun r=>[(0,.agg (Ax.cells (Ax.mk k Z (Con.mk kl I Q hl al cl pl) (Con.mk L K R J N O P) ad cap W ro a b)).toArray),(1,zp_ e 0),(2,.bool false),(11,.bool false),(12,zp_ e 0),(13,.int .i64 k),(14,.pointer (some (rad (some ⟨0,0,none⟩) (k.toNat*7)))),(15,.agg #[.bool M,.bool H,.bool S,.bool T,.bool ub,.int .i64 X,.int .i64 Y]),(3,zp_ G 0),(49,.bool r)]) ?_ fun a0 y=>?_
  ·cases a4
   ·have d:=C
    simp at C
    try dsimp only[Con.kind,Con.parts,Con.name,Con.lo,Con.hi,Con.cap,Con.ad]at C
    refine Zz 10 ?_;exact eQ_
   have d:=C;simp at C
   try dsimp only[Con.kind,Con.parts,Con.name,Con.lo,Con.hi,Con.cap,Con.ad]at C
   refine Zz 6 ?_;refine aj_ 4 ((T)||(a==[])) (fun r=>[(0,.agg (Ax.cells (Ax.mk k Z (Con.mk kl I Q hl al cl pl) (Con.mk L K R J N O P) ad cap W ro a b)).toArray),(1,zp_ e 0),(2,.bool false),(11,.bool false),(12,zp_ e 0),(13,.int .i64 k),(14,.pointer (some (rad (some ⟨0,0,none⟩) (k.toNat*7)))),(15,.agg #[.bool M,.bool H,.bool S,.bool T,.bool ub,.int .i64 X,.int .i64 Y]),(3,zp_ G 0),(41,.bool true),(48,.bool r)]) ?_ fun a1 A=>?_
   ·cases T
    ·try dsimp only[Con.kind,Con.parts,Con.name,Con.lo,Con.hi,Con.cap,Con.ad]at hua
     refine Zz 5 ?_;refine G_ (df_ rfl rfl) rfl fun a2 q=>Zz 4 ?_
     exact met (zm (jof rfl q))
    try dsimp only[Con.kind,Con.parts,Con.name,Con.lo,Con.hi,Con.cap,Con.ad]at hua
    exact hd_
   refine Zz 3 ?_;exact met ⟨rfl,rfl,rfl,rfl,rfl,rfl,rfl,rfl,rfl,(m_ rfl (jat d A)),trivial⟩
  refine Zz 1 ?_;refine aj_ 8 ((((((((((M)||(Con.empty (.mk kl I Q hl al cl pl))))&&(((H)||(Con.empty (.mk L K R J N O P))))))&&(((S)||(ro==[])))))&&(((T)||(a==[])))))&&(((ub)||(b==[])))) (fun r=>[(0,.agg (Ax.cells (Ax.mk k Z (Con.mk kl I Q hl al cl pl) (Con.mk L K R J N O P) ad cap W ro a b)).toArray),(1,zp_ e 0),(2,.bool false),(11,.bool false),(12,zp_ e 0),(13,.int .i64 k),(14,.pointer (some (rad (some ⟨0,0,none⟩) (k.toNat*7)))),(15,.agg #[.bool M,.bool H,.bool S,.bool T,.bool ub,.int .i64 X,.int .i64 Y]),(3,zp_ G 0),(58,.bool r)]) ?_ fun a1 A=>?_
  ·cases a0
   ·have d:=y
    simp at y
    try dsimp only[Con.kind,Con.parts,Con.name,Con.lo,Con.hi,Con.cap,Con.ad]at y
    refine Zz 10 ?_;exact eQ_
   have d:=y;simp at y
   try dsimp only[Con.kind,Con.parts,Con.name,Con.lo,Con.hi,Con.cap,Con.ad]at y
   refine Zz 6 ?_;refine aj_ 4 ((ub)||(b==[])) (fun r=>[(0,.agg (Ax.cells (Ax.mk k Z (Con.mk kl I Q hl al cl pl) (Con.mk L K R J N O P) ad cap W ro a b)).toArray),(1,zp_ e 0),(2,.bool false),(11,.bool false),(12,zp_ e 0),(13,.int .i64 k),(14,.pointer (some (rad (some ⟨0,0,none⟩) (k.toNat*7)))),(15,.agg #[.bool M,.bool H,.bool S,.bool T,.bool ub,.int .i64 X,.int .i64 Y]),(3,zp_ G 0),(50,.bool true),(57,.bool r)]) ?_ fun a2 q=>?_
   ·cases ub
    ·try dsimp only[Con.kind,Con.parts,Con.name,Con.lo,Con.hi,Con.cap,Con.ad]at hub
     refine Zz 5 ?_;refine G_ (df_ rfl rfl) rfl fun a6 U=>Zz 4 ?_
     exact met (zm (jof rfl U))
    try dsimp only[Con.kind,Con.parts,Con.name,Con.lo,Con.hi,Con.cap,Con.ad]at hub
    exact hd_
   refine Zz 3 ?_;exact met ⟨rfl,rfl,rfl,rfl,rfl,rfl,rfl,rfl,rfl,(m_ rfl (jat d q)),trivial⟩
  refine Zz 1 ?_;refine aj_ 7 ((((((((((((M)||(Con.empty (.mk kl I Q hl al cl pl))))&&(((H)||(Con.empty (.mk L K R J N O P))))))&&(((S)||(ro==[])))))&&(((T)||(a==[])))))&&(((ub)||(b==[])))))&&(decide (X≤(W.length:Int)))) (fun r=>[(0,.agg (Ax.cells (Ax.mk k Z (Con.mk kl I Q hl al cl pl) (Con.mk L K R J N O P) ad cap W ro a b)).toArray),(1,zp_ e 0),(2,.bool false),(11,.bool false),(12,zp_ e 0),(13,.int .i64 k),(14,.pointer (some (rad (some ⟨0,0,none⟩) (k.toNat*7)))),(15,.agg #[.bool M,.bool H,.bool S,.bool T,.bool ub,.int .i64 X,.int .i64 Y]),(3,zp_ G 0),(66,.bool r)]) ?_ fun a2 q=>?_
  ·cases a1
   ·have d:=A
    simp at A
    try dsimp only[Con.kind,Con.parts,Con.name,Con.lo,Con.hi,Con.cap,Con.ad]at A
    refine Zz 9 ?_;exact eQ_
   have d:=A;simp at A
   try dsimp only[Con.kind,Con.parts,Con.name,Con.lo,Con.hi,Con.cap,Con.ad]at A
   refine Zz 11 ?_;refine G_ (eD_ rfl rfl) rfl fun a6 U=>Zz 3 ?_
   exact met ⟨rfl,rfl,rfl,rfl,rfl,rfl,rfl,rfl,rfl,(m_ rfl (jat d U)),trivial⟩
  refine Zz 1 ?_;refine aj_ 7 ((((((((((((((M)||(Con.empty (.mk kl I Q hl al cl pl))))&&(((H)||(Con.empty (.mk L K R J N O P))))))&&(((S)||(ro==[])))))&&(((T)||(a==[])))))&&(((ub)||(b==[])))))&&(decide (X≤(W.length:Int)))))&&(decide ((W.length:Int)≤Y))) (fun r=>[(0,.agg (Ax.cells (Ax.mk k Z (Con.mk kl I Q hl al cl pl) (Con.mk L K R J N O P) ad cap W ro a b)).toArray),(1,zp_ e 0),(2,.bool false),(11,.bool false),(12,zp_ e 0),(13,.int .i64 k),(14,.pointer (some (rad (some ⟨0,0,none⟩) (k.toNat*7)))),(15,.agg #[.bool M,.bool H,.bool S,.bool T,.bool ub,.int .i64 X,.int .i64 Y]),(3,zp_ G 0),(74,.bool r)]) ?_ fun a6 U=>?_
  ·cases a2
   ·have d:=q
    simp at q
    try dsimp only[Con.kind,Con.parts,Con.name,Con.lo,Con.hi,Con.cap,Con.ad]at q
    refine Zz 9 ?_;exact eQ_
   have d:=q;simp at q
   try dsimp only[Con.kind,Con.parts,Con.name,Con.lo,Con.hi,Con.cap,Con.ad]at q
   refine Zz 11 ?_;refine G_ (dK_ rfl rfl) rfl fun r_10 a3=>Zz 3 ?_
   exact met ⟨rfl,rfl,rfl,rfl,rfl,rfl,rfl,rfl,rfl,(m_ rfl (jat d a3)),trivial⟩
  refine Zz 4 ?_;exact Y_ Tryz.results61 () (m_ rfl (by unfold Ax.shaped;rw[if_neg (by simp only[not_or];omega)];simp only[b0];exact U.symm)) (.refl _) zt
 simp at V
 try dsimp only[Con.kind,Con.parts,Con.name,Con.lo,Con.hi,Con.cap,Con.ad]at V
 refine Zz 7 ?_;exact Y_ Tryz.results61 () (m_ rfl (by unfold Ax.shaped;rw[if_pos (by simpa using V)])) (.refl _) zt
theorem pn (s:Str):(((if aO_ s then 0 else 20):Int) != 0)=!aO_ s:=by cases aO_ s<;>rfl
theorem um_ (x:Ax) (G:x.ok) (u:Use):Tri Tryz.prog 62 #[x.val,.agg u.cells.toArray] [] [x.memF] (fun _:Unit=>.bool (x.namedU u)) (fun _=>[]) (fun _=>[]):=by
 obtain⟨k,N,⟨kl,P,ll,hl,al,cl,pl⟩,⟨U,R,lr,Q,W,Z,pr⟩,ad,cap,A,ro,a,b⟩:=x;obtain⟨V,O,H,I,ub,S,L⟩:=u;have X:=G.len;have M:=G.cap;dsimp only at X M;refine i_ Tryz.func62 rfl rfl Tryz.ntmps62 rfl fun v_1=>?_;refine Zz 2 ?_;refine V_ rfl rfl fun F=>V_ rfl rfl fun J=>Zz 9 ?_
 refine aj_ 5 ((H)&&(!(bi_ ro))) (fun r=>[(0,.agg (Ax.cells (Ax.mk k N (Con.mk kl P ll hl al cl pl) (Con.mk U R lr Q W Z pr) ad cap A ro a b)).toArray),(1,.agg #[.bool V,.bool O,.bool H,.bool I,.bool ub,.int .i64 S,.int .i64 L]),(2,zp_ F 0),(3,zp_ J 0),(4,.bool false),(14,.bool r)]) ?_ fun r_1 E=>?_
 ·cases H
  ·try dsimp only[Con.kind,Con.parts,Con.name,Con.lo,Con.hi,Con.cap,Con.ad]at huo
   refine Zz 7 ?_;exact met ⟨rfl,rfl,rfl,rfl,rfl,(m_ rfl (jaf rfl)),trivial⟩
  try dsimp only[Con.kind,Con.parts,Con.name,Con.lo,Con.hi,Con.cap,Con.ad]at huo
  refine Zz 5 ?_;refine A_ (gS_ _) rfl (.refl _) zt rfl fun Y y=>ap_ rfl rfl (e_ (as_ rfl) rfl (Zz 3 ?_))
  exact met ⟨rfl,rfl,rfl,rfl,rfl,(m_ rfl (jat rfl (jn y))),trivial⟩
 refine Zz 1 ?_;refine aj_ 9 ((((H)&&(!(bi_ ro))))||(((I)&&(((if aO_ a then 0 else 20):Int) != 0)))) (fun r=>[(0,.agg (Ax.cells (Ax.mk k N (Con.mk kl P ll hl al cl pl) (Con.mk U R lr Q W Z pr) ad cap A ro a b)).toArray),(1,.agg #[.bool V,.bool O,.bool H,.bool I,.bool ub,.int .i64 S,.int .i64 L]),(2,zp_ F 0),(3,zp_ J 0),(4,.bool false),(24,.bool r)]) ?_ fun Y y=>?_
 ·cases r_1
  ·have e:=E
   try dsimp only[Con.kind,Con.parts,Con.name,Con.lo,Con.hi,Con.cap,Con.ad]at E
   refine Zz 6 ?_;refine aj_ 5 ((I)&&(((if aO_ a then 0 else 20):Int) != 0)) (fun r=>[(0,.agg (Ax.cells (Ax.mk k N (Con.mk kl P ll hl al cl pl) (Con.mk U R lr Q W Z pr) ad cap A ro a b)).toArray),(1,.agg #[.bool V,.bool O,.bool H,.bool I,.bool ub,.int .i64 S,.int .i64 L]),(2,zp_ F 0),(3,zp_ J 0),(4,.bool false),(15,.bool false),(23,.bool r)]) ?_ fun r_3 d=>?_
   ·cases I
    ·try dsimp only[Con.kind,Con.parts,Con.name,Con.lo,Con.hi,Con.cap,Con.ad]at hua
     refine Zz 8 ?_;exact met ⟨rfl,rfl,rfl,rfl,rfl,rfl,(m_ rfl (jaf rfl)),trivial⟩
    try dsimp only[Con.kind,Con.parts,Con.name,Con.lo,Con.hi,Con.cap,Con.ad]at hua
    refine Zz 5 ?_;refine j_ (gB_ _ G.a) rfl (.refl _) zt rfl fun _=>ap_ rfl rfl (G_ (cg_ rfl rfl) rfl fun K B=>Zz 4 ?_)
    exact met ⟨rfl,rfl,rfl,rfl,rfl,rfl,(m_ rfl (jat rfl B)),trivial⟩
   refine Zz 3 ?_;exact met (zm (jof e d))
  have e:=E;try dsimp only[Con.kind,Con.parts,Con.name,Con.lo,Con.hi,Con.cap,Con.ad]at E
  refine Zz 11 ?_;exact met ⟨rfl,rfl,rfl,rfl,rfl,(m_ rfl (jot e)),trivial⟩
 refine Zz 1 ?_;refine aj_ 9 ((((((H)&&(!(bi_ ro))))||(((I)&&(((if aO_ a then 0 else 20):Int) != 0)))))||(((ub)&&(((if aO_ b then 0 else 20):Int) != 0)))) (fun r=>[(0,.agg (Ax.cells (Ax.mk k N (Con.mk kl P ll hl al cl pl) (Con.mk U R lr Q W Z pr) ad cap A ro a b)).toArray),(1,.agg #[.bool V,.bool O,.bool H,.bool I,.bool ub,.int .i64 S,.int .i64 L]),(2,zp_ F 0),(4,.bool false),(34,.bool r)]) ?_ fun r_3 d=>?_
 ·cases Y
  ·have e:=y
   try dsimp only[Con.kind,Con.parts,Con.name,Con.lo,Con.hi,Con.cap,Con.ad]at y
   refine Zz 6 ?_;refine aj_ 5 ((ub)&&(((if aO_ b then 0 else 20):Int) != 0)) (fun r=>[(0,.agg (Ax.cells (Ax.mk k N (Con.mk kl P ll hl al cl pl) (Con.mk U R lr Q W Z pr) ad cap A ro a b)).toArray),(1,.agg #[.bool V,.bool O,.bool H,.bool I,.bool ub,.int .i64 S,.int .i64 L]),(2,zp_ F 0),(4,.bool false),(25,.bool false),(33,.bool r)]) ?_ fun K B=>?_
   ·cases ub
    ·try dsimp only[Con.kind,Con.parts,Con.name,Con.lo,Con.hi,Con.cap,Con.ad]at hub
     refine Zz 8 ?_;exact met ⟨rfl,rfl,rfl,rfl,rfl,(m_ rfl (jaf rfl)),trivial⟩
    try dsimp only[Con.kind,Con.parts,Con.name,Con.lo,Con.hi,Con.cap,Con.ad]at hub
    refine Zz 5 ?_;refine j_ (gB_ _ G.b) rfl (.refl _) zt rfl fun _=>ap_ rfl rfl (G_ (cg_ rfl rfl) rfl fun r_5 C=>Zz 4 ?_)
    exact met ⟨rfl,rfl,rfl,rfl,rfl,(m_ rfl (jat rfl C)),trivial⟩
   refine Zz 3 ?_;exact met (zm (jof e B))
  have e:=y;try dsimp only[Con.kind,Con.parts,Con.name,Con.lo,Con.hi,Con.cap,Con.ad]at y
  refine Zz 11 ?_;exact met ⟨rfl,rfl,rfl,rfl,(m_ rfl (jot e)),trivial⟩
 refine Zz 2 ?_;cases r_3
 ·try dsimp only[Con.kind,Con.parts,Con.name,Con.lo,Con.hi,Con.cap,Con.ad]at d
  refine Zz 13 ?_;refine bJ_ [(36,.slice ad A.length cap),(37,.int .i64 (A.length:Int)),(38,.int .i64 ((0:Nat):Int))] zl ?_;refine ci_ (ι:={q:Nat // q≤A.length∧(A.take q).all bi_=true}) (fun i=>[(36,.slice ad A.length cap),(37,.int .i64 (A.length:Int)),(38,.int .i64 (i.1:Int))]) (fun _=>_) (fun _=>_) (fun i=>A.length - i.1) ⟨0,by simp⟩ ?_;rintro ⟨i,hk⟩;refine bJ_ [(36,.slice ad A.length cap),(37,.int .i64 (A.length:Int)),(38,.int .i64 (i:Int))] zl ?_;refine Zj 2 (fun B=>?_) fun B=>?_
  ·refine Zz 12 ?_
   exact Y_ Tryz.results62 () (m_ rfl (by have hf:A.all bi_=true:=(by have:=hk.2;rwa [List.take_of_length_le za_]at this);unfold Ax.namedU;simp only[pn]at d;simp only[hf,d];rfl)) (.refl _) zt
  have T:i<A.length:=by omega
  obtain⟨q,hp⟩:∃ q,A[i]? = some q:=⟨_,List.getElem?_eq_getElem T⟩;refine Zz 10 ?_;refine e_ (O_ n_ I_ rfl rfl (fun v _ h=>aq_ (n:=1) at_ ze_ (h.1.2.2) hp) za_ zh_) rfl ?_;refine Zz 7 ?_;refine A_ (gS_ _) rfl (.refl _) zt rfl fun K C=>e_ (as_ rfl) rfl (Zz 2 ?_)
  cases K
  ·try dsimp only[Con.kind,Con.parts,Con.name,Con.lo,Con.hi,Con.cap,Con.ad]at C
   refine Zz 7 ?_;exact Y_ Tryz.results62 () (m_ rfl (by have hf:A.all bi_=false:=List.all_eq_false.2 ⟨q,List.mem_of_getElem? hp,by simp[*]⟩;unfold Ax.namedU;simp only[hf,Bool.and_false])) (.refl _) zt
  try dsimp only[Con.kind,Con.parts,Con.name,Con.lo,Con.hi,Con.cap,Con.ad]at C
  refine Zz 8 ?_;exact x_ ⟨i+1,T,by rw[List.take_add_one,hp];simp only[Option.toList_some,List.all_append,hk.2];simp[*]⟩ zn_ zl (.refl _) zh
 try dsimp only[Con.kind,Con.parts,Con.name,Con.lo,Con.hi,Con.cap,Con.ad]at d
 refine Zz 7 ?_;exact Y_ Tryz.results62 () (m_ rfl (by unfold Ax.namedU;simp only[pn]at d;simp only[d];rfl)) (.refl _) zt
theorem Ax.shaped_kind {x:Ax} (h:x.shaped=true):1≤x.kind∧x.kind≤9:=by
 unfold Ax.shaped at h
 split at h
 ·cases h
 rename_i d;simp only[not_or]at d;omega
theorem dY_ {G:Prop} (h:G:=by
 refine Zz 9 ?_;exact dZ_):G:=h
theorem dI_ {G:Prop} (h:G:=by
 refine Zz 7 ?_;exact dZ_):G:=h
theorem mk_ {G:Prop} (h:G:=by
 refine Zz 2 ?_;cases S
 ·simp at d
  try dsimp only[Con.kind,Con.parts,Con.name,Con.lo,Con.hi,Con.cap,Con.ad]at d
  exact dY_
 simp at d
 try dsimp only[Con.kind,Con.parts,Con.name,Con.lo,Con.hi,Con.cap,Con.ad]at d
 exact dI_):G:=h
theorem ml_ {G:Prop} (h:G:=by
 refine A_ (dQ_ _ (.mk G F K E H I J) (Nat.le_refl _) B.right) rfl (.refl _) (fun v _ h=>⟨h.1.2.1,trivial⟩) rfl fun A L=>Zz 2 ?_
 cases A
 ·try dsimp only[Con.kind,Con.parts,Con.name,Con.lo,Con.hi,Con.cap,Con.ad]at L
  exact dY_
 try dsimp only[Con.kind,Con.parts,Con.name,Con.lo,Con.hi,Con.cap,Con.ad]at L
 exact dI_):G:=h
theorem mm_ {G:Prop} (h:G:=by
 refine Zz 11 ?_;refine A_ (dQ_ _ (.mk G F K E H I J) (Nat.le_refl _) B.right) rfl (.refl _) (fun v _ h=>⟨h.1.2.1,trivial⟩) rfl fun A d=>Zz 2 ?_
 cases A
 ·try dsimp only[Con.kind,Con.parts,Con.name,Con.lo,Con.hi,Con.cap,Con.ad]at d
  exact dY_
 try dsimp only[Con.kind,Con.parts,Con.name,Con.lo,Con.hi,Con.cap,Con.ad]at d
 exact dI_):G:=h
theorem mn_ {G:Prop} (h:G:=by
 cases A
 ·have C:=y
  try dsimp only[Con.kind,Con.parts,Con.name,Con.lo,Con.hi,Con.cap,Con.ad]at y
  refine Zz 5 ?_;refine A_ (dQ_ _ (.mk G F K E H I J) (Nat.le_refl _) B.right) rfl (.refl _) (fun v _ h=>⟨h.1.2.1,trivial⟩) rfl fun a2 q=>Zz 3 ?_
  exact met (zm (jof C q))
 have C:=y;try dsimp only[Con.kind,Con.parts,Con.name,Con.lo,Con.hi,Con.cap,Con.ad]at y
 refine Zz 6 ?_;exact met ⟨rfl,rfl,rfl,rfl,rfl,rfl,rfl,rfl,rfl,rfl,rfl,rfl,rfl,rfl,rfl,rfl,rfl,rfl,rfl,rfl,rfl,rfl,rfl,rfl,rfl,rfl,rfl,rfl,rfl,(m_ rfl (jot C)),trivial⟩):G:=h
theorem jk_ {G:Prop} (h:G:=by
 refine A_ (dQ_ _ (.mk G F K E H I J) (Nat.le_refl _) B.right) rfl (.refl _) (fun v _ h=>⟨h.1.2.1,trivial⟩) rfl fun A q=>Zz 2 ?_
 cases A
 ·try dsimp only[Con.kind,Con.parts,Con.name,Con.lo,Con.hi,Con.cap,Con.ad]at q
  exact dY_
 try dsimp only[Con.kind,Con.parts,Con.name,Con.lo,Con.hi,Con.cap,Con.ad]at q
 exact dI_):G:=h
theorem mo_ {G:Prop} (h:G:=by
 refine Zj 7 (fun y=>?_) fun y=>?_
 ·refine Zj 6 (fun d=>?_) fun d=>?_
  ·refine Zj 5 (fun q=>?_) fun q=>?_
   ·refine Zz 12 ?_
    exact dZ_
   refine Zz 8 ?_;exact ml_
  refine Zz 11 ?_;exact jk_
 exact mm_):G:=h
theorem dZ_ {G:Prop} (h:G:=by
 exact Y_ Tryz.results29 () (cd_ rfl (by unfold Ax.check;simp only[e];simp_all)) (.refl _) zt):G:=h
theorem hF_ (x:Ax) (B:x.ok):Tri Tryz.prog 29 #[x.val] [] [x.memF,cn_] (fun _:Unit=>.int .i64 x.check) (fun _=>[]) (fun _=>[]):=by
 obtain⟨k,T,⟨kl,O,P,hl,al,cl,pl⟩,⟨G,F,K,E,H,I,J⟩,ad,cap,U,ro,a,b⟩:=x;refine i_ Tryz.func29 rfl rfl Tryz.ntmps29 rfl fun v_1=>?_;refine Zz 2 ?_;refine V_ rfl rfl fun N=>Zz 7 ?_
 refine A_ (sf_ ⟨k,T,(.mk kl O P hl al cl pl),(.mk G F K E H I J),ad,cap,U,ro,a,b⟩) rfl (.refl _) zf rfl fun r_1 V=>e_ (as_ rfl) rfl (Zz 2 ?_)
 cases r_1
 ·try dsimp only[Con.kind,Con.parts,Con.name,Con.lo,Con.hi,Con.cap,Con.ad]at V
  refine Zz 7 ?_;exact Y_ Tryz.results29 () (cd_ rfl (by unfold Ax.check;simp_all)) (.refl _) zt
 try dsimp only[Con.kind,Con.parts,Con.name,Con.lo,Con.hi,Con.cap,Con.ad]at V
 have hk_1:1≤k∧k≤9:=Ax.shaped_kind V;obtain⟨u,hx⟩:∃ u,tD_[k.toNat]? = some u:=⟨_,List.getElem?_eq_getElem (show k.toNat<10 by omega)⟩;have e:us k=u:=by simp[us,hx]
 obtain⟨ul,ur,Y,Z,ub,X,W⟩:=u;refine Zz 7 ?_;refine e_ (ea_ Tryz.runUnderlying96 jE_ rfl rfl zaO_ (by show k<(10:Int);omega)) rfl ?_;refine e_ (ae_ (ad:=some ⟨0,0,none⟩) (us:=Use.cells ⟨ul,ur,Y,Z,ub,X,W⟩) Tryz.isAgg95 jE_ rfl (fun v _ h=>h.2.1.2.1) (Use.cells_len _) (p_ Use.cells_len hx)) rfl (E_ Tryz.zeroValue95 rfl fun Q=>z_ 0 jE_ rfl rfl rfl rfl rfl rfl (Zz 7 ?_));refine A_ (um_ ⟨k,T,(.mk kl O P hl al cl pl),(.mk G F K E H I J),ad,cap,U,ro,a,b⟩ B ⟨ul,ur,Y,Z,ub,X,W⟩) rfl (.refl _) zf rfl fun r_2 a1=>e_ (as_ rfl) rfl (Zz 2 ?_)
 cases r_2
 ·try dsimp only[Con.kind,Con.parts,Con.name,Con.lo,Con.hi,Con.cap,Con.ad]at a1
  exact dI_
 try dsimp only[Con.kind,Con.parts,Con.name,Con.lo,Con.hi,Con.cap,Con.ad]at a1
 refine Zz 10 ?_;cases ul
 ·try dsimp only[Con.kind,Con.parts,Con.name,Con.lo,Con.hi,Con.cap,Con.ad]at hul
  refine Zz 10 ?_;cases ur
  ·try dsimp only[Con.kind,Con.parts,Con.name,Con.lo,Con.hi,Con.cap,Con.ad]at hur
   refine Zj 13 (fun R=>?_) fun R=>?_
   ·refine Zj 7 (fun M=>?_) fun M=>?_
    ·refine Zj 6 (fun y=>?_) fun y=>?_
     ·refine Zj 5 (fun d=>?_) fun d=>?_
      ·refine Zz 12 ?_
       exact dZ_
      refine Zz 8 ?_;exact jk_
     exact mm_
    refine Zz 11 ?_;refine A_ (dQ_ _ (.mk G F K E H I J) (Nat.le_refl _) B.right) rfl (.refl _) (fun v _ h=>⟨h.1.2.1,trivial⟩) rfl fun A y=>Zz 2 ?_
    cases A
    ·try dsimp only[Con.kind,Con.parts,Con.name,Con.lo,Con.hi,Con.cap,Con.ad]at y
     exact dY_
    try dsimp only[Con.kind,Con.parts,Con.name,Con.lo,Con.hi,Con.cap,Con.ad]at y
    exact dI_
   refine Zz 8 ?_;refine A_ (dQ_ _ (.mk kl O P hl al cl pl) (Nat.le_refl _) B.left) rfl (.refl _) (fun v _ h=>⟨h.1.1,trivial⟩) rfl fun A M=>Zz 1 ?_
   refine aj_ 4 ((Con.bare (.mk kl O P hl al cl pl))||(Con.bare (.mk G F K E H I J))) (fun r=>[(0,.agg (Ax.cells (Ax.mk k T (Con.mk kl O P hl al cl pl) (Con.mk G F K E H I J) ad cap U ro a b)).toArray),(1,zp_ N 0),(2,.int .i64 0),(6,.agg (Ax.cells (Ax.mk k T (Con.mk kl O P hl al cl pl) (Con.mk G F K E H I J) ad cap U ro a b)).toArray),(7,.bool true),(8,.bool false),(9,zp_ N 0),(10,.int .i64 k),(11,.pointer (some (rad (some ⟨0,0,none⟩) (k.toNat*7)))),(12,.agg #[.bool false,.bool false,.bool Y,.bool Z,.bool ub,.int .i64 X,.int .i64 W]),(3,zp_ Q 0),(13,.agg (Ax.cells (Ax.mk k T (Con.mk kl O P hl al cl pl) (Con.mk G F K E H I J) ad cap U ro a b)).toArray),(14,.agg #[.bool false,.bool false,.bool Y,.bool Z,.bool ub,.int .i64 X,.int .i64 W]),(15,.bool true),(16,.bool false),(17,zp_ Q 0),(18,.bool false),(25,zp_ Q 1),(26,.bool false),(33,zp_ N 0),(34,.int .i64 k),(36,.bool true),(35,.bool true),(44,.bool r)]) ?_ fun S y=>?_
   ·cases A
    ·have C:=M
     try dsimp only[Con.kind,Con.parts,Con.name,Con.lo,Con.hi,Con.cap,Con.ad]at M
     refine Zz 5 ?_;refine A_ (dQ_ _ (.mk G F K E H I J) (Nat.le_refl _) B.right) rfl (.refl _) (fun v _ h=>⟨h.1.2.1,trivial⟩) rfl fun a2 d=>Zz 3 ?_
     exact met (zm (jof C d))
    have C:=M;try dsimp only[Con.kind,Con.parts,Con.name,Con.lo,Con.hi,Con.cap,Con.ad]at M
    refine Zz 6 ?_;exact met ⟨rfl,rfl,rfl,rfl,rfl,rfl,rfl,rfl,rfl,rfl,rfl,rfl,rfl,rfl,rfl,rfl,rfl,rfl,rfl,rfl,rfl,rfl,rfl,(m_ rfl (jot C)),trivial⟩
   refine Zz 2 ?_;cases S
   ·simp at y
    try dsimp only[Con.kind,Con.parts,Con.name,Con.lo,Con.hi,Con.cap,Con.ad]at y
    exact dY_
   simp at y
   try dsimp only[Con.kind,Con.parts,Con.name,Con.lo,Con.hi,Con.cap,Con.ad]at y
   exact dI_
  try dsimp only[Con.kind,Con.parts,Con.name,Con.lo,Con.hi,Con.cap,Con.ad]at hur
  refine Zz 5 ?_;refine j_ (eN_ (.mk G F K E H I J) B.right) rfl (.refl _) (fun v _ h=>⟨h.1.2.1,h.2.1,trivial⟩) rfl fun _=>Zj 6 (fun R=>?_) fun R=>?_
  ·refine Zj 15 (fun M=>?_) fun M=>?_
   ·exact mo_
   refine Zz 8 ?_;refine A_ (dQ_ _ (.mk kl O P hl al cl pl) (Nat.le_refl _) B.left) rfl (.refl _) (fun v _ h=>⟨h.1.1,trivial⟩) rfl fun A y=>Zz 1 ?_
   refine aj_ 4 ((Con.bare (.mk kl O P hl al cl pl))||(Con.bare (.mk G F K E H I J))) (fun r=>[(0,.agg (Ax.cells (Ax.mk k T (Con.mk kl O P hl al cl pl) (Con.mk G F K E H I J) ad cap U ro a b)).toArray),(1,zp_ N 0),(2,.int .i64 0),(6,.agg (Ax.cells (Ax.mk k T (Con.mk kl O P hl al cl pl) (Con.mk G F K E H I J) ad cap U ro a b)).toArray),(7,.bool true),(8,.bool false),(9,zp_ N 0),(10,.int .i64 k),(11,.pointer (some (rad (some ⟨0,0,none⟩) (k.toNat*7)))),(12,.agg #[.bool false,.bool true,.bool Y,.bool Z,.bool ub,.int .i64 X,.int .i64 W]),(3,zp_ Q 0),(13,.agg (Ax.cells (Ax.mk k T (Con.mk kl O P hl al cl pl) (Con.mk G F K E H I J) ad cap U ro a b)).toArray),(14,.agg #[.bool false,.bool true,.bool Y,.bool Z,.bool ub,.int .i64 X,.int .i64 W]),(15,.bool true),(16,.bool false),(17,zp_ Q 0),(18,.bool false),(25,zp_ Q 1),(26,.bool true),(27,zp_ N 7),(28,.agg (Con.cells (Con.mk G F K E H I J)).toArray),(29,.int .i64 (Con.check (.mk G F K E H I J))),(5,.int .i64 (Con.check (.mk G F K E H I J))),(30,.int .i64 (Con.check (.mk G F K E H I J))),(31,.bool false),(33,zp_ N 0),(34,.int .i64 k),(36,.bool true),(35,.bool true),(44,.bool r)]) ?_ fun S d=>?_
   ·exact mn_
   exact mk_
  refine Zz 10 ?_;exact dZ_
 try dsimp only[Con.kind,Con.parts,Con.name,Con.lo,Con.hi,Con.cap,Con.ad]at hul
 refine Zz 5 ?_;refine j_ (eN_ (.mk kl O P hl al cl pl) B.left) rfl (.refl _) (fun v _ h=>⟨h.1.1,h.2.1,trivial⟩) rfl fun _=>Zj 6 (fun R=>?_) fun R=>?_
 ·refine Zz 12 ?_
  cases ur
  ·try dsimp only[Con.kind,Con.parts,Con.name,Con.lo,Con.hi,Con.cap,Con.ad]at hur
   refine Zj 13 (fun M=>?_) fun M=>?_
   ·exact mo_
   refine Zz 8 ?_;refine A_ (dQ_ _ (.mk kl O P hl al cl pl) (Nat.le_refl _) B.left) rfl (.refl _) (fun v _ h=>⟨h.1.1,trivial⟩) rfl fun A y=>Zz 1 ?_
   refine aj_ 4 ((Con.bare (.mk kl O P hl al cl pl))||(Con.bare (.mk G F K E H I J))) (fun r=>[(0,.agg (Ax.cells (Ax.mk k T (Con.mk kl O P hl al cl pl) (Con.mk G F K E H I J) ad cap U ro a b)).toArray),(1,zp_ N 0),(2,.int .i64 0),(6,.agg (Ax.cells (Ax.mk k T (Con.mk kl O P hl al cl pl) (Con.mk G F K E H I J) ad cap U ro a b)).toArray),(7,.bool true),(8,.bool false),(9,zp_ N 0),(10,.int .i64 k),(11,.pointer (some (rad (some ⟨0,0,none⟩) (k.toNat*7)))),(12,.agg #[.bool true,.bool false,.bool Y,.bool Z,.bool ub,.int .i64 X,.int .i64 W]),(3,zp_ Q 0),(13,.agg (Ax.cells (Ax.mk k T (Con.mk kl O P hl al cl pl) (Con.mk G F K E H I J) ad cap U ro a b)).toArray),(14,.agg #[.bool true,.bool false,.bool Y,.bool Z,.bool ub,.int .i64 X,.int .i64 W]),(15,.bool true),(16,.bool false),(17,zp_ Q 0),(18,.bool true),(19,zp_ N 2),(20,.agg (Con.cells (Con.mk kl O P hl al cl pl)).toArray),(21,.int .i64 (Con.check (.mk kl O P hl al cl pl))),(4,.int .i64 (Con.check (.mk kl O P hl al cl pl))),(22,.int .i64 (Con.check (.mk kl O P hl al cl pl))),(23,.bool false),(25,zp_ Q 1),(26,.bool false),(33,zp_ N 0),(34,.int .i64 k),(36,.bool true),(35,.bool true),(44,.bool r)]) ?_ fun S d=>?_
   ·exact mn_
   exact mk_
  try dsimp only[Con.kind,Con.parts,Con.name,Con.lo,Con.hi,Con.cap,Con.ad]at hur
  refine Zz 5 ?_;refine j_ (eN_ (.mk G F K E H I J) B.right) rfl (.refl _) (fun v _ h=>⟨h.1.2.1,h.2.1,trivial⟩) rfl fun _=>Zj 6 (fun M=>?_) fun M=>?_
  ·refine Zj 15 (fun y=>?_) fun y=>?_
   ·refine Zj 7 (fun d=>?_) fun d=>?_
    ·refine Zj 6 (fun q=>?_) fun q=>?_
     ·refine Zj 5 (fun L=>?_) fun L=>?_
      ·refine Zz 12 ?_
       exact dZ_
      refine Zz 8 ?_;refine A_ (dQ_ _ (.mk G F K E H I J) (Nat.le_refl _) B.right) rfl (.refl _) (fun v _ h=>⟨h.1.2.1,trivial⟩) rfl fun A a0=>Zz 2 ?_
      cases A
      ·try dsimp only[Con.kind,Con.parts,Con.name,Con.lo,Con.hi,Con.cap,Con.ad]at a0
       exact dY_
      try dsimp only[Con.kind,Con.parts,Con.name,Con.lo,Con.hi,Con.cap,Con.ad]at a0
      exact dI_
     refine Zz 11 ?_;exact ml_
    refine Zz 11 ?_;exact jk_
   refine Zz 8 ?_;refine A_ (dQ_ _ (.mk kl O P hl al cl pl) (Nat.le_refl _) B.left) rfl (.refl _) (fun v _ h=>⟨h.1.1,trivial⟩) rfl fun A d=>Zz 1 ?_
   refine aj_ 4 ((Con.bare (.mk kl O P hl al cl pl))||(Con.bare (.mk G F K E H I J))) (fun r=>[(0,.agg (Ax.cells (Ax.mk k T (Con.mk kl O P hl al cl pl) (Con.mk G F K E H I J) ad cap U ro a b)).toArray),(1,zp_ N 0),(2,.int .i64 0),(6,.agg (Ax.cells (Ax.mk k T (Con.mk kl O P hl al cl pl) (Con.mk G F K E H I J) ad cap U ro a b)).toArray),(7,.bool true),(8,.bool false),(9,zp_ N 0),(10,.int .i64 k),(11,.pointer (some (rad (some ⟨0,0,none⟩) (k.toNat*7)))),(12,.agg #[.bool true,.bool true,.bool Y,.bool Z,.bool ub,.int .i64 X,.int .i64 W]),(3,zp_ Q 0),(13,.agg (Ax.cells (Ax.mk k T (Con.mk kl O P hl al cl pl) (Con.mk G F K E H I J) ad cap U ro a b)).toArray),(14,.agg #[.bool true,.bool true,.bool Y,.bool Z,.bool ub,.int .i64 X,.int .i64 W]),(15,.bool true),(16,.bool false),(17,zp_ Q 0),(18,.bool true),(19,zp_ N 2),(20,.agg (Con.cells (Con.mk kl O P hl al cl pl)).toArray),(21,.int .i64 (Con.check (.mk kl O P hl al cl pl))),(4,.int .i64 (Con.check (.mk kl O P hl al cl pl))),(22,.int .i64 (Con.check (.mk kl O P hl al cl pl))),(23,.bool false),(25,zp_ Q 1),(26,.bool true),(27,zp_ N 7),(28,.agg (Con.cells (Con.mk G F K E H I J)).toArray),(29,.int .i64 (Con.check (.mk G F K E H I J))),(5,.int .i64 (Con.check (.mk G F K E H I J))),(30,.int .i64 (Con.check (.mk G F K E H I J))),(31,.bool false),(33,zp_ N 0),(34,.int .i64 k),(36,.bool true),(35,.bool true),(44,.bool r)]) ?_ fun S q=>?_
   ·cases A
    ·have C:=d
     try dsimp only[Con.kind,Con.parts,Con.name,Con.lo,Con.hi,Con.cap,Con.ad]at d
     refine Zz 5 ?_;refine A_ (dQ_ _ (.mk G F K E H I J) (Nat.le_refl _) B.right) rfl (.refl _) (fun v _ h=>⟨h.1.2.1,trivial⟩) rfl fun a2 L=>Zz 3 ?_
     exact met (zm (jof C L))
    have C:=d;try dsimp only[Con.kind,Con.parts,Con.name,Con.lo,Con.hi,Con.cap,Con.ad]at d
    refine Zz 6 ?_;exact met ⟨rfl,rfl,rfl,rfl,rfl,rfl,rfl,rfl,rfl,rfl,rfl,rfl,rfl,rfl,rfl,rfl,rfl,rfl,rfl,rfl,rfl,rfl,rfl,rfl,rfl,rfl,rfl,rfl,rfl,rfl,rfl,rfl,rfl,rfl,rfl,(m_ rfl (jot C)),trivial⟩
   refine Zz 2 ?_;cases S
   ·simp at q
    try dsimp only[Con.kind,Con.parts,Con.name,Con.lo,Con.hi,Con.cap,Con.ad]at q
    exact dY_
   simp at q
   try dsimp only[Con.kind,Con.parts,Con.name,Con.lo,Con.hi,Con.cap,Con.ad]at q
   exact dI_
  refine Zz 10 ?_;exact dZ_
 refine Zz 10 ?_;exact dZ_
def prE:Array MapEntry:=#[⟨.int .i64 1,.func (.func 229) #[] #[],0⟩,⟨.int .i64 2,.func (.func 230) #[] #[],1⟩,⟨.int .i64 3,.func (.func 231) #[] #[],2⟩,⟨.int .i64 4,.func (.func 232) #[] #[],3⟩,⟨.int .i64 5,.func (.func 233) #[] #[],4⟩,⟨.int .i64 6,.func (.func 234) #[] #[],5⟩,⟨.int .i64 7,.func (.func 235) #[] #[],6⟩]
def prF (m:Nat):Fct:=bU_ m (.map prE 7)
def prV (m n:Nat):Value:=.agg #[.map (some m),.map (some n)]
theorem elt39:Elt Tryz.prog 25 9 1 16:=ji_ ie_ (z:=.string ⟨#[]⟩) zd_ rfl ze_
theorem wc_ {b n cap:Nat} (h:List Str) (d:Str) (H:h.length=n) {A:Array Value} {T:TypeId} {fz:Nat×Nat} (I:∀ (j:Nat) (x:Str),h[j]? = some x→A[j]? = some (str x)) (B:h.length≤cap) (L:h.length≤1000000) (C:(Lib.join h d).length≤140737488355328) :
    Tri Tryz.prog 252 #[.slice (some ⟨b,0,none⟩) n cap,str d] [(b,.cells A T fz)] [cn_] (fun _:Unit=>str (Lib.join h d)) (fun _=>[(b,.cells A T fz)]) (fun _=>[]):=by
  subst H;refine cO_ (callable Tryz.func252 rfl rfl) fun v E K=>?_;have G:=(E.own _ List.mem_cons_self).1;have e:(h.map fun x=>(⟨x.toArray⟩:ByteArray)).map (·.data.toList)=h:=by simp[List.map_map,Function.comp_def]
  have:=Tryz.strings_Join b 0 cap (h.map fun x=>⟨x.toArray⟩) ⟨d.toArray⟩ v.w (fun j x F=>by
    simp only[List.getElem?_map,Option.map_eq_some_iff]at F;obtain⟨y,J,rfl⟩:=F;simp only[World.cell?,G,Nat.zero_add];exact I j y J) (Array.getElem?_eq_some_iff.1 G).1 zn_ zW_ (by rw[e];exact C)
  rw[e,List.length_map]at this;exact this.mono fun _ _ q=>⟨q.1,q.2,.inl K.1.2.2.2.1⟩
theorem we_ (n:Int) (q:-9223372036854775808≤n) (d:n≤9223372036854775807):Tri Tryz.prog 254 #[.int .i64 n] [] [cn_] (fun _:Unit=>str (Lib.itoa n)) (fun _=>[]) (fun _=>[]) :=
  cO_ (callable Tryz.func254 rfl rfl) fun v _ h=>(Tryz.strconv_Itoa n q d v.w (tT_ h.1.2.2.2)).mono (by
    rintro e w' ⟨rfl,k,os,rfl⟩;exact⟨rfl,sv_ _ _ _,.inr (Nat.le_add_right _ _)⟩)
theorem sG_ {b n:Nat} (e:List Str) (y:e.length=n) {d:Array Value} {T:TypeId} {fz:Nat×Nat} (A:∀ (j:Nat) (x:Str),e[j]? = some x→d[j]? = some (str x)) (B:e.length≤1000000) (q:(Lib.join e [32]).length≤140737488355328) :
    Tri Tryz.prog 253 #[.slice (some ⟨b,0,none⟩) n n] [(b,.cells d T fz)] [cn_] (fun _:Unit=>str (Lib.join e [32])) (fun _=>[(b,.cells d T fz)]) (fun _=>[]):=by
  refine i_ Tryz.func253 rfl rfl Tryz.ntmps253 rfl fun C=>?_;refine Zz 8 ?_;refine j_ (wc_ e [32] y A (Nat.le_of_eq y) B q) rfl (.refl _) (fun v _ h=>h) rfl fun _=>Zz 4 ?_
  exact Y_ Tryz.results253 () rfl (F:=[]) (.refl _) zt
theorem pr_top (c:Con) (m n:Nat) (hk:c.kind=1):Tri Tryz.prog 229 #[prV m n,c.val] [] [c.memF,prF m,cn_] (fun _:Unit=>str c.text) (fun _=>[]) (fun _=>[]):=by
  obtain⟨k,nm,lo,hi,ad,cap,ps⟩:=c;simp only[Con.kind]at hk;refine i_ Tryz.func229 rfl rfl Tryz.ntmps229 rfl fun d=>?_;refine Zz 2 ?_;refine V_ rfl rfl fun e=>V_ rfl rfl fun h=>Zz 9 ?_
  exact Y_ Tryz.results229 () (fH_ rfl zJ_) (.refl _) zt
theorem tS_ (c:Con) (m n:Nat) (hk:c.kind=2):Tri Tryz.prog 230 #[prV m n,c.val] [] [c.memF,prF m,cn_] (fun _:Unit=>str c.text) (fun _=>[]) (fun _=>[]):=by
  obtain⟨k,nm,lo,hi,ad,cap,ps⟩:=c;simp only[Con.kind]at hk;refine i_ Tryz.func230 rfl rfl Tryz.ntmps230 rfl fun d=>?_;refine Zz 2 ?_;refine V_ rfl rfl fun e=>V_ rfl rfl fun h=>Zz 9 ?_
  exact Y_ Tryz.results230 () (fH_ rfl zJ_) (.refl _) zt
theorem vC_ (c:Con) (m n:Nat) (hk:c.kind=3):Tri Tryz.prog 231 #[prV m n,c.val] [] [c.memF,prF m,cn_] (fun _:Unit=>str c.text) (fun _=>[]) (fun _=>[]):=by
  obtain⟨k,nm,lo,hi,ad,cap,ps⟩:=c;simp only[Con.kind]at hk;refine i_ Tryz.func231 rfl rfl Tryz.ntmps231 rfl fun d=>?_;refine Zz 2 ?_;refine V_ rfl rfl fun e=>V_ rfl rfl fun h=>Zz 11 ?_
  exact Y_ Tryz.results231 () (fH_ rfl zJ_) (.refl _) zt
theorem rR_ (c:Con) (m n:Nat) (hk:c.kind=4) (hl:c.name.length≤24):Tri Tryz.prog 232 #[prV m n,c.val] [] [c.memF,prF m,cn_] (fun _:Unit=>str c.text) (fun _=>[]) (fun _=>[]):=by
  obtain⟨k,nm,lo,hi,ad,cap,ps⟩:=c;simp only[Con.kind]at hk;refine i_ Tryz.func232 rfl rfl Tryz.ntmps232 rfl fun d=>?_;simp only[Con.name]at hl;refine Zz 2 ?_;refine V_ rfl rfl fun e=>V_ rfl rfl fun h=>Zz 7 ?_
  refine e_ (fl_ rfl rfl (by simp[Con.name];omega)) rfl ?_;refine e_ (fl_ rfl rfl (by simp[Con.name];omega)) rfl ?_;refine Zz 4 ?_;exact Y_ Tryz.results232 () (fH_ rfl zJ_) (.refl _) zt
theorem mj_ {G:Prop} (h:G:=by
 exact Y_ Tryz.results251 () (fH_ rfl (by unfold Con.operand;first|exact (if_pos zi_).symm|exact (if_neg zi_).symm)) (.refl _) zt):G:=h
theorem rQ_ (c:Con) (m n:Nat) (hl:c.text.length≤100000) (e:Tri Tryz.prog 214 #[prV m n,c.val] [] [c.memF,prF m,cn_] (fun _:Unit=>str c.text) (fun _=>[]) (fun _=>[])):Tri Tryz.prog 251 #[prV m n,c.val] [] [c.memF,prF m,cn_] (fun _:Unit=>str c.operand) (fun _=>[]) (fun _=>[]):=by
 obtain⟨k,nm,lo,hi,ad,cap,ps⟩:=c;refine i_ Tryz.func251 rfl rfl Tryz.ntmps251 rfl fun q=>?_;refine Zz 2 ?_;refine V_ rfl rfl fun x=>V_ rfl rfl fun y=>Zj 8 (fun d=>?_) fun d=>?_
 ·refine Zz 9 ?_
  refine j_ (e) rfl (.refl _) (fun v _ h=>h) rfl fun _=>Zz 4 ?_
  exact mj_
 refine Zz 7 ?_;refine j_ (e) rfl (.refl _) (fun v _ h=>h) rfl fun _=>?_;refine e_ (fl_ rfl rfl zy_) rfl ?_;refine e_ (fl_ rfl rfl zy_) rfl ?_;refine Zz 4 ?_;exact mj_
theorem fS_ (c:Con) (m n:Nat) {g i:Nat} (e:dq_ Tryz.prog 3 (.int .i64 c.kind) prE.toList (some (i,.func (.func g) #[] #[]))) (y:Tri Tryz.prog g #[prV m n,c.val] [] [c.memF,prF m,cn_] (fun _:Unit=>str c.text) (fun _=>[]) (fun _=>[])):Tri Tryz.prog 214 #[prV m n,c.val] [] [c.memF,prF m,cn_] (fun _:Unit=>str c.text) (fun _=>[]) (fun _=>[]):=by
  obtain⟨k,nm,lo,hi,ad,cap,ps⟩:=c;refine i_ Tryz.func214 rfl rfl Tryz.ntmps214 rfl fun d=>?_;refine Zz 2 ?_;refine V_ rfl rfl fun q=>V_ rfl rfl fun x=>Zz 9 ?_
  refine e_ (eS_ dj_ rfl rfl (fun v _ h=>h.2.1.2) (bb_ u_) e) rfl (Zz 2 ?_);refine ao_ (y) rfl rfl (.refl _) zf rfl fun _=>Zz 4 ?_
  exact Y_ Tryz.results214 () rfl (.refl _) zt
theorem xh_:iC_ Tryz.prog 253 [(0,1),(1,1)] [.map none,.map none]:=⟨_,Tryz.zeroValue253,cr_,fun w=>by simp[Tryz.sizeOf250,Tryz.sizeOf251]⟩
theorem pm_:Tri Tryz.prog 213 #[] [] [] (fun q:Nat×Nat=>prV q.1 q.2) (fun _=>[]) (fun q=>[prF q.1]):=by
  refine i_ Tryz.func213 rfl rfl Tryz.ntmps213 rfl fun y=>?_;refine Zz 2 ?_;refine E_ Tryz.zeroValue253 rfl fun A=>Zz 4 ?_
  refine ba_ rfl fun x=>aS_ 0 (.inl rfl) dj_ rfl rfl rfl rfl (bb_ u_) (aK_ u_ rfl) (aS_ 0 (.inl rfl) dj_ rfl rfl rfl rfl (bb_ u_) (aK_ u_ rfl) (aS_ 0 (.inl rfl) dj_ rfl rfl rfl rfl (bb_ u_) (aK_ u_ rfl) (aS_ 0 (.inl rfl) dj_ rfl rfl rfl rfl (bb_ u_) (aK_ u_ rfl) (aS_ 0 (.inl rfl) dj_ rfl rfl rfl rfl (bb_ u_) (aK_ u_ rfl) (aS_ 0 (.inl rfl) dj_ rfl rfl rfl rfl (bb_ u_) (aK_ u_ rfl) (aS_ 0 (.inl rfl) dj_ rfl rfl rfl rfl (bb_ u_) (aK_ u_ rfl) (Zz 1 ?_)))))))
  refine ba_ rfl fun e=>aS_ 0 (.inl rfl) cs_ rfl rfl rfl rfl (bb_ u_) (aK_ u_ rfl) (aS_ 0 (.inl rfl) cs_ rfl rfl rfl rfl (bb_ u_) (aK_ u_ rfl) (aS_ 0 (.inl rfl) cs_ rfl rfl rfl rfl (bb_ u_) (aK_ u_ rfl) (aS_ 0 (.inl rfl) cs_ rfl rfl rfl rfl (bb_ u_) (aK_ u_ rfl) (aS_ 0 (.inl rfl) cs_ rfl rfl rfl rfl (bb_ u_) (aK_ u_ rfl) (aS_ 0 (.inl rfl) cs_ rfl rfl rfl rfl (bb_ u_) (aK_ u_ rfl) (aS_ 0 (.inl rfl) cs_ rfl rfl rfl rfl (bb_ u_) (aK_ u_ rfl) (aS_ 0 (.inl rfl) cs_ rfl rfl rfl rfl (bb_ u_) (aK_ u_ rfl) (aS_ 0 (.inl rfl) cs_ rfl rfl rfl rfl (bb_ u_) (aK_ u_ rfl) (Zz 1 ?_)))))))))
  refine e_ (J_ xh_ rfl rfl) rfl (z_ 2 Tryz.sizeOf253 rfl rfl rfl rfl rfl rfl (Zz 3 ?_));refine iq_ 1 rfl ?_;exact gb_ (x,e) (fun a v d h=>dE_ (us:=[_,_]) 1 Tryz.results213 Tryz.isAgg253 Tryz.sizeOf253 rfl rfl rfl a v d h) (.refl _) zf
theorem pr_and (c:Con) (m n:Nat) (H:c.kind=5) (K:2≤c.parts.length∧c.parts.length≤8) (hl:(Lib.join (c.parts.map Con.operand) [32,97,110,100,32]).length≤140737488355328) (x:∀ p∈c.parts,Tri Tryz.prog 251 #[prV m n,p.val] [] [p.memF,prF m,cn_] (fun _:Unit=>str p.operand) (fun _=>[]) (fun _=>[])):Tri Tryz.prog 233 #[prV m n,c.val] [] [c.memF,prF m,cn_] (fun _:Unit=>str c.text) (fun _=>[]) (fun _=>[]):=by
 obtain⟨k,nm,lo,hi,ad,cap,ps⟩:=c;simp only[Con.kind,Con.parts]at H K hl x;refine i_ Tryz.func233 rfl rfl Tryz.ntmps233 rfl fun N=>?_;refine Zz 2 ?_;refine V_ rfl rfl fun d=>V_ rfl rfl fun P=>Zz 18 ?_
 refine bJ_ [(2,zp_ d 0),(5,.slice none 0 0),(9,.slice ad ps.length cap),(10,.int .i64 (ps.length:Int)),(11,.int .i64 ((0:Nat):Int))] zl ?_;refine ci_ (ι:={q:Nat×Value×Hp // q.1≤ps.length∧ax_ 9 1 q.2.1 q.1 ((ps.take q.1).flatMap fun p=>ak_ p.operand) q.2.2}) (fun q=>[(2,zp_ d 0),(5,q.1.2.1),(9,.slice ad ps.length cap),(10,.int .i64 (ps.length:Int)),(11,.int .i64 (q.1.1:Int))]) (fun q=>_::_::q.1.2.2) (fun _=>_) (fun q=>ps.length - q.1.1) ⟨(0,.slice none 0 0,[]),by simp,ax_.nil _ _⟩ ?_;rintro ⟨⟨i,sv,Hr⟩,hk⟩;dsimp only at hk;refine bJ_ [(2,zp_ d 0),(5,sv),(9,.slice ad ps.length cap),(10,.int .i64 (ps.length:Int)),(11,.int .i64 (i:Int))] zl ?_;refine Zj 2 (fun G=>?_) fun G=>?_
 ·obtain rfl:i=ps.length:=by omega
  obtain⟨g,cp,cur,rfl,rfl,J,Q,O,C⟩:=hk.2.some za_;rw[List.take_length]at C;refine Zz 9 ?_;refine j_ (wc_ (ps.map Con.operand) [32,97,110,100,32] zj_ (om_ (n:=ps.length) (by rw[C,List.flatMap_map])) (by simpa using J) zn_ hl) rfl (@List.perm_append_comm _ [_,_] _) zf rfl fun _=>?_;refine Zz 4 ?_;exact Y_ Tryz.results233 () (fH_ rfl (by rw[Con.text_eq];simp[Con.kind,Con.parts,H])) (.refl _) zt
 have y:i<ps.length:=by omega
 obtain⟨p,I⟩:∃ p,ps[i]? = some p:=⟨_,List.getElem?_eq_getElem y⟩;have E:p∈ps:=List.mem_of_getElem? I;refine Zz 10 ?_;refine e_ (O_ ag_ M_ rfl rfl (fun v _ h=>aq_ (n:=5) Con.cells_len ze_ (((Con.mem_iff (.mk k nm lo hi ad cap ps) v).1 h.1).1) I) za_ zh_) rfl ?_;refine e_ (ae_ (ad:=ad) (us:=p.cells) aN_ M_ rfl (fun v _ h=>((Con.mem_iff (.mk k nm lo hi ad cap ps) v).1 h.1).1) (Con.cells_len _) (p_ Con.cells_len I)) rfl (E_ bQ_ rfl fun M=>ff_ 0 M_ rfl rfl rfl rfl (Zz 5 ?_));refine e_ (dd_ 0 aN_ M_ rfl rfl) rfl (j_ (x p E) rfl (.refl _) (fun v _ h=>⟨Con.mem_part (c:=(.mk k nm lo hi ad cap ps)) h.1 E,h.2.1,h.2.2.1,trivial⟩) rfl fun _=>X_ n_ I_ az_ rfl rfl rfl rfl rfl rfl fun L=>?_);refine am_ elt39 hk.2 rfl rfl (@List.perm_append_comm _ [_,_,_,_] _) rfl (aR_ 0 rfl) (ka_ rfl) zm_ za_ rfl fun B e A=>?_;refine C_ (@List.perm_append_comm _ _ [_,_,_,_]) (Zz 8 ?_);exact x_ ⟨(i+1,B,e),y,by rw[Con.take_snoc I,List.flatMap_append];exact A⟩ zn_ zl (F:=[_,_]) (@List.perm_append_comm _ [_,_] _) zh
theorem xE_ (c:Con) (m n:Nat) (x:c.kind=6) (d:c.parts.length=1) (hl:c.text.length≤140737488355328) (e:∀ p∈c.parts,Tri Tryz.prog 251 #[prV m n,p.val] [] [p.memF,prF m,cn_] (fun _:Unit=>str p.operand) (fun _=>[]) (fun _=>[])):Tri Tryz.prog 234 #[prV m n,c.val] [] [c.memF,prF m,cn_] (fun _:Unit=>str c.text) (fun _=>[]) (fun _=>[]):=by
  obtain⟨k,nm,lo,hi,ad,cap,ps⟩:=c;simp only[Con.kind,Con.parts]at x d e;obtain⟨p,rfl⟩:=List.length_eq_one_iff.1 d;have A:[p][0]? = some p:=rfl;have q:p∈[p]:=List.mem_singleton.2 rfl;have y:(Con.mk k nm lo hi ad cap [p]).text=Lib.join [[115,111,109,101],nm,p.operand] [32]:=by rw[Con.text_eq];simp[Con.kind,Con.parts,Con.name,x]
  rw[y]at hl;refine i_ Tryz.func234 rfl rfl Tryz.ntmps234 rfl fun B=>?_;refine Zz 2 ?_;refine V_ rfl rfl fun E=>V_ rfl rfl fun F=>Zz 5 ?_
  refine t_ 4 [0,1,2,3,4,5,6] zk zs (Zz 5 ?_);refine N_ rfl (O_ ag_ M_ rfl rfl (fun v _ h=>aq_ (n:=5) Con.cells_len ze_ (((Con.mem_iff (.mk k nm lo hi ad cap [p]) v).1 h.1).1) A) za_ zh_) rfl ?_;refine N_ rfl (ae_ (ad:=ad) (us:=p.cells) aN_ M_ rfl (fun v _ h=>((Con.mem_iff (.mk k nm lo hi ad cap [p]) v).1 h.1).1) (Con.cells_len _) (p_ Con.cells_len A)) rfl (bh_ (o_ 7 rfl zk (j_ (e p q) rfl (.refl _) (fun v _ h=>⟨Con.mem_part (c:=.mk k nm lo hi ad cap [p]) h.1 q,h.2.1,h.2.2.1,trivial⟩) rfl fun _=>Zz 3 ?_)));refine o_ 8 rfl zk (X_ n_ I_ az_ rfl rfl rfl rfl rfl rfl fun C=>Zz 3 ?_);refine o_ 9 rfl zk (j_ (sG_ [[115,111,109,101],nm,p.operand] rfl (sM_ _) zj_ hl) rfl (.refl _) zf rfl fun _=>Zz 3 ?_);refine t_ 0 [10] zk zs (Zz 5 ?_);exact Y_ Tryz.results234 () (fH_ rfl y.symm) (.refl _) zt
theorem xD_ (c:Con) (m n:Nat) (d:c.kind=7) (q:c.ok) (hl:c.text.length≤140737488355328):Tri Tryz.prog 235 #[prV m n,c.val] [] [c.memF,prF m,cn_] (fun _:Unit=>str c.text) (fun _=>[]) (fun _=>[]):=by
  obtain⟨k,nm,lo,hi,ad,cap,ps⟩:=c;simp only[Con.kind]at d;obtain⟨_,_,_,x,h,e,y,_⟩:=q;have A:(Con.mk k nm lo hi ad cap ps).text=Lib.join [nm,[105,110],Lib.itoa lo,[116,111],Lib.itoa hi] [32]:=by rw[Con.text_eq];simp[Con.kind,Con.name,Con.lo,Con.hi,d]
  rw[A]at hl;refine i_ Tryz.func235 rfl rfl Tryz.ntmps235 rfl fun B=>?_;refine Zz 2 ?_;refine V_ rfl rfl fun E=>V_ rfl rfl fun F=>Zz 5 ?_
  refine t_ 5 [0,1,2,3,5,6] zk zs (Zz 7 ?_);refine o_ 4 rfl zk (j_ (we_ _ x h) rfl (.refl _) zf rfl fun _=>Zz 3 ?_);refine o_ 7 rfl zk (j_ (we_ _ e y) rfl (.refl _) zf rfl fun _=>Zz 3 ?_);refine o_ 8 rfl zk (X_ n_ I_ az_ rfl rfl rfl rfl rfl rfl fun C=>Zz 3 ?_);refine o_ 9 rfl zk (j_ (sG_ [nm,[105,110],Lib.itoa lo,[116,111],Lib.itoa hi] rfl (sM_ _) zj_ hl) rfl (.refl _) zf rfl fun _=>Zz 3 ?_);refine t_ 0 [10] zk zs (Zz 5 ?_);exact Y_ Tryz.results235 () (fH_ rfl A.symm) (.refl _) zt
theorem xC_ (m n:Nat):∀ (d:Nat) (c:Con),c.sz≤d→c.sz≤64→c.ok→c.fine→Tri Tryz.prog 214 #[prV m n,c.val] [] [c.memF,prF m,cn_] (fun _:Unit=>str c.text) (fun _=>[]) (fun _=>[]):=by
 intro d
 induction d with
 | zero=>intro c h;have:=c.sz_pos;omega
 | succ d ih =>
   intro c I B e y;have F:=Con.fields y;have hl:=Con.text_len _ c (Nat.le_refl _) e y
   have q:∀ p∈c.parts,Tri Tryz.prog 251 #[prV m n,p.val] [] [p.memF,prF m,cn_] (fun _:Unit=>str p.operand) (fun _=>[]) (fun _=>[]):=fun p x=>by
     have H:=Con.sz_part x;have hl:=Con.text_len _ p (Nat.le_refl _) (Con.ok_part e x) (Con.fine_part y x);exact rQ_ p m n za_ (ih p za_ za_ (Con.ok_part e x) (Con.fine_part y x))
   have G:=F.k1;have C:=F.k7;have hm:=F.mo;have A:=F.le;have hk:c.kind=1∨c.kind=2∨c.kind=3∨c.kind=4∨c.kind=5∨c.kind=6∨c.kind=7:=by omega
   rcases hk with hk|hk|hk|hk|hk|hk|hk
   · exact fS_ c m n zE_ (pr_top c m n hk)
   · exact fS_ c m n zE_ (tS_ c m n hk)
   · exact fS_ c m n zE_ (vC_ c m n hk)
   · exact fS_ c m n zE_ (rR_ c m n hk F.nm)
   · have E:c.text=Lib.join (c.parts.map Con.operand) [32,97,110,100,32]:=by rw[Con.text_eq];simp[hk]
     rw[hk]at hm A;simp[nd,ez_]at hm A
     exact fS_ c m n zE_ (pr_and c m n hk ⟨by omega,by omega⟩ (by rw[← E];omega) q)
   · rw[hk]at hm A
     simp[nd,ez_]at hm A
     exact fS_ c m n zE_ (xE_ c m n hk za_ za_ q)
   · exact fS_ c m n zE_ (xD_ c m n hk e za_)
theorem qv_ (c:Con) (h:c.ok):Tri Tryz.prog 191 #[c.val] [] [c.memF,cn_] (fun _:Unit=>.tuple #[str c.textN,.int .i64 c.check]) (fun _=>[]) (fun _=>[]):=by
 obtain⟨k,nm,lo,hi,ad,cap,ps⟩:=c;refine i_ Tryz.func191 rfl rfl Tryz.ntmps191 rfl fun y=>?_;refine Zz 2 ?_;refine V_ rfl rfl fun A=>Zz 8 ?_
 refine j_ (eN_ (.mk k nm lo hi ad cap ps) h) rfl (.refl _) zf rfl fun _=>Zj 6 (fun d=>?_) fun d=>?_
 ·obtain⟨e,x⟩:=Con.check_zero d
  refine Zz 7 ?_;refine t_ 4 [1] zk zs (Zz 2 ?_);refine o_ 0 rfl zk (j_ (pm_) rfl (.refl _) zt rfl fun q=>Zz 3 ?_);refine o_ 2 rfl zk (j_ (xC_ q.1 q.2 _ (.mk k nm lo hi ad cap ps) (Nat.le_refl _) x h e) rfl (.refl _) zf rfl fun _=>Zz 3 ?_);refine t_ 0 [3,4] zk zs (Zz 6 ?_);exact kK_ Tryz.results191 () rfl rfl (by simp[Con.textN, *]<;>rfl) (.refl _) zt
 refine Zz 11 ?_;exact kK_ Tryz.results191 () rfl rfl (by simp[Con.textN, *]<;>rfl) (.refl _) zt
theorem xO_ (c:Con) (d:c.ok):Tri Tryz.prog 156 #[c.val] [] [c.memF,cn_] (fun _:Unit=>str c.textN) (fun _=>[]) (fun _=>[]):=by
  obtain⟨k,nm,lo,hi,ad,cap,ps⟩:=c;refine i_ Tryz.func156 rfl rfl Tryz.ntmps156 rfl fun e=>?_;refine Zz 2 ?_;refine V_ rfl rfl fun q=>Zz 6 ?_
  refine j_ (qv_ (.mk k nm lo hi ad cap ps) d) rfl (.refl _) (fun v _ h=>h) rfl fun _=>Zz 14 ?_
  exact Y_ Tryz.results156 () rfl (.refl _) zt
theorem fF_ (s:Str) (e:s.length≤140737488351232) :
    Fn0 Tryz.prog 112 #[str s] (str ([123]++s++[125])):=by
  refine i_ Tryz.func112 rfl rfl Tryz.ntmps112 rfl fun d=>?_;refine Zz 8 ?_;refine e_ (fl_ rfl rfl zn_) rfl ?_;refine e_ (fl_ rfl rfl zn_) rfl ?_;refine Zz 4 ?_;exact Y_ Tryz.results112 () rfl (.refl _) zt
theorem fO_ {G:Prop} (h:G:=by
 exact Y_ Tryz.results111 () (fH_ rfl (by unfold Con.atom;simp only[Con.kind,Con.name]at *;simp[*])) (.refl _) zt):G:=h
theorem dx_ (c:Con) (d:c.ok):Tri Tryz.prog 111 #[c.val] [] [c.memF,cn_] (fun _:Unit=>str c.atom) (fun _=>[]) (fun _=>[]):=by
 obtain⟨k,nm,lo,hi,ad,cap,ps⟩:=c;refine i_ Tryz.func111 rfl rfl Tryz.ntmps111 rfl fun A=>?_;refine Zz 2 ?_;refine V_ rfl rfl fun B=>Zj 13 (fun y=>?_) fun y=>?_
 ·refine Zj 6 (fun q=>?_) fun q=>?_
  ·refine Zj 6 (fun x=>?_) fun x=>?_
   ·refine Zj 6 (fun e=>?_) fun e=>?_
    ·refine Zz 9 ?_
     refine j_ (xO_ (.mk k nm lo hi ad cap ps) d) rfl (.refl _) (fun v _ h=>h) rfl fun _=>?_;refine e_ (fl_ rfl rfl zac_) rfl ?_;refine e_ (fl_ rfl rfl zac_) rfl ?_;refine Zz 4 ?_;exact fO_
    refine Zz 8 ?_;refine j_ (fF_ nm (Con.ok_name d)) rfl (.refl _) zt rfl fun _=>Zz 4 ?_
    exact fO_
   refine Zz 12 ?_;exact fO_
  refine Zz 10 ?_;exact fO_
 refine Zz 10 ?_;exact fO_
theorem eqPc (p q:Pc) (w:World):(Op.equalIn 10000 174 p.val q.val).run Tryz.prog w=.ok (decide (p=q)) w:=by
  have h:=run_equalIn_struct (P:=Tryz.prog) w 9999 174 p.cells.toArray q.cells.toArray (by simp only[Program.fieldsOf,eY_]) Tryz.stoodInHeld174;refine h.trans ?_;rw[← Pc.eqb_eq];simp only[Program.fieldsOf,eY_];exact bK_ rfl aQ_ rfl rfl (eqI u_ w) (bK_ rfl ab_ rfl rfl (eqS aH_ w) (bK_ rfl ab_ rfl rfl (eqS aH_ w) (bK_ rfl ab_ rfl rfl (eqS aH_ w) (bK_ rfl ab_ rfl rfl (eqS aH_ w) (bK_ rfl ab_ rfl rfl (eqS aH_ w) (bK_ rfl ab_ rfl rfl (eqS aH_ w) (bK_ rfl aQ_ rfl rfl (eqI u_ w) (bK_ rfl aQ_ rfl rfl (eqI u_ w) (bK_ rfl aQ_ rfl rfl (eqI u_ w) (kn_ w))))))))))
theorem eqFc (p q:Fc) (w:World):(Op.equalIn 10000 36 p.val q.val).run Tryz.prog w=.ok (decide (p=q)) w:=by
  have h:=run_equalIn_struct (P:=Tryz.prog) w 9999 36 p.cells.toArray q.cells.toArray (by simp only[Program.fieldsOf,ol_]) Tryz.stoodInHeld36;refine h.trans ?_;rw[← Fc.eqb_eq];simp only[Program.fieldsOf,ol_];exact bK_ rfl aQ_ rfl rfl (eqI u_ w) (bK_ rfl ab_ rfl rfl (eqS aH_ w) (bK_ rfl ab_ rfl rfl (eqS aH_ w) (bK_ rfl ab_ rfl rfl (eqS aH_ w) (bK_ rfl aQ_ rfl rfl (eqI u_ w) (bK_ rfl aQ_ rfl rfl (eqI u_ w) (kn_ w))))))
theorem tf_ (p:Pc):hb_ Tryz.prog 174 p.val:=fun e w=>by
 have hi:∀ (n:Int) (w:World),(Instr.checkKey e (9998+1) 3 (.int .i64 n)).run Tryz.prog w=.ok () w:=fun n w=>MapKept.run_checkKey (d:=.int .i64) u_ zak_ e 9998
 have h:∀ (n:Str) (w:World),(Instr.checkKey e (9998+1) 9 (str n)).run Tryz.prog w=.ok () w:=fun n w=>MapKept.run_checkKey (d:=.string) aH_ zZ_ e 9998
 refine ckF (n:=9999) eY_ fun f q=>?_;simp only[List.mem_cons,List.not_mem_nil,or_false]at q;rcases q with rfl|rfl|rfl|rfl|rfl|rfl|rfl|rfl|rfl|rfl
 ·exact⟨rfl,aQ_,_,rfl,hi _⟩
 ·exact⟨rfl,ab_,_,rfl,h _⟩
 ·exact⟨rfl,ab_,_,rfl,h _⟩
 ·exact⟨rfl,ab_,_,rfl,h _⟩
 ·exact⟨rfl,ab_,_,rfl,h _⟩
 ·exact⟨rfl,ab_,_,rfl,h _⟩
 ·exact⟨rfl,ab_,_,rfl,h _⟩
 ·exact⟨rfl,aQ_,_,rfl,hi _⟩
 ·exact⟨rfl,aQ_,_,rfl,hi _⟩
 exact⟨rfl,aQ_,_,rfl,hi _⟩
theorem ww_:Elt Tryz.prog 63 174 10 128:=ji_ Tryz.underlying63 (z:=.agg (Pc.mk 0 [] [] [] [] [] [] 0 0 0).cells.toArray) zd_ rfl ze_
theorem dh_:iC_ Tryz.prog 174 [(0,1),(1,1),(2,1),(3,1),(4,1),(5,1),(6,1),(7,1),(8,1),(9,1)] [.int .i64 0,str [],str [],str [],str [],str [],str [],.int .i64 0,.int .i64 0,.int .i64 0]:=⟨_,T_,cv_,fun w=>by simp[au_,I_]⟩
theorem eb_:iC_ Tryz.prog 36 [(0,1),(1,1),(2,1),(3,1),(4,1),(5,1)] [.int .i64 0,str [],str [],str [],.int .i64 0,.int .i64 0]:=⟨_,Q_,cK_,fun w=>by simp[au_,I_]⟩
structure CS where
  sv:Value
  bm:Nat
  es:Array MapEntry
  clk:Nat
  Hr:Hp
def gz_ (kb:Nat) (frm:Int) (q:CS):Hp:=(kb,.cells #[.int .i64 frm,q.sv,.map (some q.bm)] 114 (0,0))::(q.bm,.map q.es q.clk)::q.Hr
structure CInv (l:List Pc) (q:CS):Prop where
  row:ax_ 174 10 q.sv l.length (l.flatMap Pc.cells) q.Hr
  keys:q.es.toList.map (·.key)=l.map Pc.val
  vals:∀ x∈q.es.toList,x.val=.bool true
theorem CInv.push {l:List Pc} {p:Pc} {sv d:Value} {bm clk:Nat} {es:Array MapEntry} {Hr e:Hp} (h:CInv l ⟨sv,bm,es,clk,Hr⟩) (y:ax_ 174 10 d (l.length+1) (l.flatMap Pc.cells++p.cells) e):CInv (l++[p]) ⟨d,bm,es.push ⟨p.val,.bool true,clk⟩,clk+1,e⟩:=by
 refine⟨?_,?_,?_⟩
 ·simpa [List.flatMap_append] using y
 ·have:=h.keys
  simp only at this;simp[this]
 intro x q;simp only[Array.toList_push,List.mem_append,List.mem_singleton]at q;rcases q with q|rfl
 ·exact h.vals x q
 rfl
theorem eg_ (p:Pc) {kb E:Nat} (frm:Int) (l:List Pc) (q:CS) (C:CInv l q) (O:l.length≤100000) :
    Tri Tryz.prog 110 #[zp_ kb 0,.slice (some ⟨E,0,none⟩) 1 1] ((E,.cells p.cells.toArray 174 (0,0))::gz_ kb frm q) [] (fun _:{L:CS // CInv (ins frm l p) L}=>.tuple #[]) (fun L=>gz_ kb frm L.1) (fun _=>[]):=by
  obtain⟨k,a,b,c,r,s,t,lo,hi,f⟩:=p;obtain⟨sv,bm,es,clk,Hr⟩:=q;refine i_ Tryz.func110 rfl rfl Tryz.ntmps110 rfl fun P=>?_;refine Zz 8 ?_;refine bJ_ [(0,zp_ kb 0),(6,.slice (some ⟨E,0,none⟩) 1 1),(7,.int .i64 1),(8,.int .i64 ((0:Nat):Int))] zl ?_;refine ci_ (ι:={x:Nat×CS // (x.1=0∧x.2=⟨sv,bm,es,clk,Hr⟩)∨(x.1=1∧CInv (ins frm l ⟨k,a,b,c,r,s,t,lo,hi,f⟩) x.2)}) (fun x=>[(0,zp_ kb 0),(6,.slice (some ⟨E,0,none⟩) 1 1),(7,.int .i64 1),(8,.int .i64 (x.1.1:Int))]) (fun x=>_::gz_ kb frm x.1.2) (fun _=>_) (fun x=>1 - x.1.1) ⟨(0,⟨sv,bm,es,clk,Hr⟩),.inl ⟨rfl,rfl⟩⟩ ?_;rintro ⟨⟨i,N⟩,hk⟩;dsimp only at hk;rcases hk with⟨rfl,rfl⟩|⟨rfl,Q⟩
  · skip
    refine bJ_ [(0,zp_ kb 0),(6,.slice (some ⟨E,0,none⟩) 1 1),(7,.int .i64 1),(8,.int .i64 0)] zl ?_;refine Zj 2 (fun e=>?_) fun e=>?_
    · skip
      exact absurd ze_ e
    · skip
      refine Zz 10 ?_;refine e_ (eW_ D_ F_ rfl rfl ze_ ze_) rfl (Zz 1 ?_);refine E_ T_ rfl fun H=>z_ 0 F_ rfl rfl rfl rfl rfl rfl (Zz 9 ?_)
      refine z_ 0 au_ rfl rfl rfl rfl rfl rfl (Zz 3 ?_)
      by_cases hm:(⟨k,a,b,c,r,s,t,lo,hi,frm⟩:Pc)∈l
      · skip
        obtain⟨j,K⟩:=(hB_ eY_ (fun p q w=>eqPc p q w) (⟨k,a,b,c,r,s,t,lo,hi,frm⟩:Pc) l es.toList C.keys).2 hm C.vals;refine Zz 1 ?_;refine t_ 0 [0,1,2,3,4,5,6] zk zs (Zz 5 ?_);refine N_ rfl (eS_ jg_ rfl rfl (fun v h _=>(h.own _ (List.mem_of_getElem? (i:=3) rfl)).1) (tf_ (⟨k,a,b,c,r,s,t,lo,hi,frm⟩:Pc)) K) rfl (N_ rfl (as_ rfl) rfl (Zz 11 ?_));exact x_ ⟨(1,⟨sv,bm,es,clk,Hr⟩),.inr ⟨rfl,by simp only[ins,if_pos hm];exact C⟩⟩ Nat.zero_lt_one zl (F:=[_]) (@List.perm_append_comm _ [_] _) zh
      · skip
        have K:=(hB_ eY_ (fun p q w=>eqPc p q w) (⟨k,a,b,c,r,s,t,lo,hi,frm⟩:Pc) l es.toList C.keys).1 hm;refine Zz 1 ?_;refine t_ 0 [0,1,2,3,4,5,6] zk zs (Zz 5 ?_);refine N_ rfl (eC_ jg_ aA_ rfl rfl (fun v h _=>(h.own _ (List.mem_of_getElem? (i:=3) rfl)).1) (tf_ (⟨k,a,b,c,r,s,t,lo,hi,frm⟩:Pc)) K) rfl (N_ rfl (as_ rfl) rfl (Zz 5 ?_));refine ah_ [(H,.cells #[.int .i64 k,str a,str b,str c,str r,str s,str t,.int .i64 lo,.int .i64 hi,.int .i64 frm] 174 (0,0)),(E,.cells #[.int .i64 k,str a,str b,str c,str r,str s,str t,.int .i64 lo,.int .i64 hi,.int .i64 f] 174 (0,0)),(kb,.cells #[.int .i64 frm,sv,.map (some bm)] 114 (0,0))] zk ?_;refine t_ 1 [0,1,2,3,4] zk (fun _ a b=>⟨Vw.sat.sub a,b⟩) (Zz 6 ?_);refine o_ 5 rfl zk (aS_ 3 (.inr rfl) jg_ rfl rfl rfl rfl (tf_ (⟨k,a,b,c,r,s,t,lo,hi,frm⟩:Pc)) K (Zz 2 ?_));refine R_ (fun _ a b=>⟨Vw.sat.sub a,b⟩) (Zz 2 ?_);refine ah_ [(H,.cells #[.int .i64 k,str a,str b,str c,str r,str s,str t,.int .i64 lo,.int .i64 hi,.int .i64 frm] 174 (0,0))] zk ?_;refine t_ 6 [0,1,2,3,5] zk (fun _ a b=>⟨Vw.sat.sub a,b⟩) (Zz 6 ?_);refine gC_ 4 6 rfl rfl zk ?_ ?_
        · skip
          refine Zz 3 ?_;refine R_ (fun _ a b=>⟨Vw.sat.sub a,b⟩) (o_ 6 rfl zk (X_ D_ F_ T_ rfl rfl rfl rfl rfl rfl fun M=>Zz 2 ?_));refine R_ (fun _ a b=>⟨Vw.sat.sub a.tail,b⟩) (o_ 7 rfl zk (am_ (news:=Pc.cells (⟨k,a,b,c,r,s,t,lo,hi,frm⟩:Pc)) ww_ C.row rfl rfl (@List.perm_append_comm _ [_,_,_,_,_] _) rfl (aR_ 0 rfl) (ka_ rfl) zm_ za_ rfl fun I G d=>?_));refine C_ (@List.perm_append_comm _ _ [_,_,_,_,_]) ?_;obtain⟨B,A,y,rfl,rfl,J⟩:=d.some za_;refine Zz 2 ?_;refine R_ (fun _ a b=>⟨Vw.sat.sub a.tail,b⟩) (t_ 1 [8,9] zk (fun _ a b=>⟨Vw.sat.sub a.tail,b⟩) (Zz 3 ?_));refine o_ 10 rfl zk (z_ 3 yL_ rfl rfl rfl rfl rfl rfl (Zz 2 ?_));refine R_ (fun _ a b=>⟨Vw.sat.sub a.tail,b⟩) (Zz 7 ?_);exact x_ ⟨(1,⟨.slice (some ⟨B,0,none⟩) (l.length+1) A,bm,es.push ⟨Pc.val (⟨k,a,b,c,r,s,t,lo,hi,frm⟩:Pc),.bool true,clk⟩,clk+1,[(B,.cells y 174 (0,0))]⟩),.inr ⟨rfl,by simp only[ins,if_neg hm];exact C.push d⟩⟩ Nat.zero_lt_one zl (F:=[_,_]) (@List.perm_append_comm _ [_,_] _) zh
        · skip
          refine X_ D_ F_ T_ rfl rfl rfl rfl rfl rfl fun M=>Zz 2 ?_
          refine R_ (fun _ a b=>⟨Vw.sat.sub a.tail,b⟩) (o_ 4 rfl zk (Zz 3 ?_));refine R_ (fun _ a b=>⟨Vw.sat.sub a.tail,b⟩) (o_ 7 rfl zk (am_ (news:=Pc.cells (⟨k,a,b,c,r,s,t,lo,hi,frm⟩:Pc)) ww_ C.row rfl rfl (@List.perm_append_comm _ [_,_,_,_,_] _) rfl (aR_ 0 rfl) (ka_ rfl) zm_ za_ rfl fun I G d=>?_));refine C_ (@List.perm_append_comm _ _ [_,_,_,_,_]) ?_;obtain⟨B,A,y,rfl,rfl,J⟩:=d.some za_;refine Zz 2 ?_;refine R_ (fun _ a b=>⟨Vw.sat.sub a.tail,b⟩) (t_ 1 [8,9] zk (fun _ a b=>⟨Vw.sat.sub a.tail,b⟩) (Zz 3 ?_));refine o_ 10 rfl zk (z_ 3 yL_ rfl rfl rfl rfl rfl rfl (Zz 2 ?_));refine R_ (fun _ a b=>⟨Vw.sat.sub a.tail,b⟩) (Zz 7 ?_);exact x_ ⟨(1,⟨.slice (some ⟨B,0,none⟩) (l.length+1) A,bm,es.push ⟨Pc.val (⟨k,a,b,c,r,s,t,lo,hi,frm⟩:Pc),.bool true,clk⟩,clk+1,[(B,.cells y 174 (0,0))]⟩),.inr ⟨rfl,by simp only[ins,if_neg hm];exact C.push d⟩⟩ Nat.zero_lt_one zl (F:=[_,_]) (@List.perm_append_comm _ [_,_] _) zh
  · skip
    refine bJ_ [(0,zp_ kb 0),(6,.slice (some ⟨E,0,none⟩) 1 1),(7,.int .i64 1),(8,.int .i64 1)] zl ?_;refine Zj 2 (fun e=>?_) fun e=>?_
    · skip
      refine Zz 6 ?_;exact cp_ Tryz.results110 ⟨N,Q⟩ rfl (F:=[_]) (@List.perm_append_comm _ [_] _) zt
    · skip
      exact absurd e ze_
theorem xl_:iC_ Tryz.prog 114 [(0,1),(1,1),(2,1)] [.int .i64 0,.slice none 0 0,.map none]:=⟨_,Tryz.zeroValue114,bY_,fun w=>by simp[au_,yL_,Tryz.sizeOf112]⟩
theorem nm_ (frm:Int):Tri Tryz.prog 69 #[.int .i64 frm] [] [] (fun x:Nat×Nat=>zp_ x.1 0) (fun x=>gz_ x.1 frm ⟨.slice none 0 0,x.2,#[],0,[]⟩) (fun _=>[]):=by
  refine i_ Tryz.func69 rfl rfl Tryz.ntmps69 rfl fun h=>?_;refine Zz 8 ?_;refine ba_ rfl fun e=>e_ (J_ xl_ rfl rfl) rfl (V_ rfl rfl fun d=>Zz 4 ?_)
  exact Y_ Tryz.results69 (d,e) rfl (F:=[]) (.refl _) zt
def kF (b kb:Nat):Fct:=bU_ b (.cells [zp_ kb 0].toArray 109 (0,0))
def lFn (b bk:Nat):Value:=.func (.func 154) #[] #[zp_ b 0,zp_ bk 0]
def lF (b bk:Nat):Fct:=bU_ b (.cells [lFn b bk].toArray 145 (0,0))
def rFn (b bk:Nat):Value:=.func (.func 155) #[] #[zp_ bk 0,zp_ b 0]
def rcF (b bk:Nat):Fct:=bU_ b (.cells [rFn b bk].toArray 145 (0,0))
theorem xs_ (kb:Nat):Tri Tryz.prog 109 #[zp_ kb 0] [] [] (fun x:Nat×Nat×Nat=>.tuple #[lFn x.2.1 x.1,rFn x.2.2 x.1]) (fun _=>[]) (fun x=>[kF x.1 kb,lF x.2.1 x.1,rcF x.2.2 x.1]):=by
  refine i_ Tryz.func109 rfl rfl Tryz.ntmps109 rfl fun A=>?_;refine Zz 2 ?_;refine V_ rfl rfl fun d=>E_ Tryz.zeroValue145 rfl fun q=>E_ Tryz.zeroValue145 rfl fun e=>Zz 4 ?_
  refine e_ (bF_ rfl rfl) rfl (z_ 1 Tryz.sizeOf145 rfl rfl rfl rfl rfl rfl (Zz 4 ?_));refine e_ (bF_ rfl rfl) rfl (z_ 0 Tryz.sizeOf145 rfl rfl rfl rfl rfl rfl (Zz 4 ?_));refine t_ 2 [0,1] zk zs (Zz 3 ?_);refine o_ 2 rfl zk (z_ 1 Tryz.sizeOf145 rfl rfl rfl rfl rfl rfl (Zz 3 ?_));refine o_ 3 rfl zk (z_ 0 Tryz.sizeOf145 rfl rfl rfl rfl rfl rfl (Zz 6 ?_));refine iq_ 0 rfl ?_;refine iq_ 0 rfl ?_;refine iq_ 0 rfl ?_;exact retG (d,q,e) (fun a v y B h=>xA_ Tryz.results109 jF_ jF_ y rfl rfl (nk_ (cs:=[lFn q d]) 0 h.2.1 rfl) (nk_ (cs:=[rFn e d]) 0 h.2.2.1 rfl)) (F:=[]) (.refl _) zf
theorem Con.mem_tail {c:Con} (d:c.ok) {v:Vw} (h:c.mem v):bu_ v (sad c.ad c.cap 1 5) ((c.parts.drop 1).flatMap Con.cells):=by
  have:=((Con.mem_iff c v).1 h).1.slice Con.cells_len (Con.ok_len d).1 1 c.parts.length;rwa [List.take_of_length_le zj_]at this
theorem Con.drop_at {ps:List Con} {p:Con} {i:Nat} (d:ps[i]? = some p):ps.drop i=p::ps.drop (i+1):=by
  have hi:=(List.getElem?_eq_some_iff.1 d).1;rw[List.getElem?_eq_getElem hi]at d;simp only[Option.some.injEq]at d;subst d;exact List.drop_eq_getElem_cons hi
theorem Con.szs_append:∀ (d ys:List Con),Con.sz.szs (d++ys)=Con.sz.szs d+Con.sz.szs ys
  | [],ys=>by simp[Con.sz.szs]
  | x::d,ys=>by simp only[List.cons_append,Con.sz.szs,Con.szs_append d ys];omega
theorem Con.sz_at {ps:List Con} {p:Con} {i:Nat} (d:ps[i]? = some p):Con.sz.szs (ps.take i)+p.sz≤Con.sz.szs ps:=by
  have e:Con.sz.szs ps=Con.sz.szs (ps.take i++(p::ps.drop (i+1))):=by rw[← Con.drop_at d,List.take_append_drop]
  rw[e,Con.szs_append];simp only[Con.sz.szs];omega
theorem Con.lefts_len (frm:Int) (ps:List Con) (i:Nat) (l:List Pc):(Con.leftP.lefts frm (ps.take i) l).length+(ps.take i).length≤l.length+2*Con.sz.szs (ps.take i):=by
  generalize ps.take i=qs
  induction qs generalizing l with
  | nil=>simp[Con.leftP.lefts]
  | cons p qs ih =>
    have d:=Con.leftP_len frm _ p (Nat.le_refl _) l;have e:=ih (p.leftP frm l);simp only[Con.leftP.lefts,Con.sz.szs,List.length_cons];omega
theorem Con.rights_len (frm:Int) (a:Str) (ps:List Con) (i:Nat) (l:List Pc):(Con.rightP.rights frm a (ps.take i) l).length≤l.length+2*Con.sz.szs (ps.take i):=by
  generalize ps.take i=qs
  induction qs generalizing l with
  | nil=>simp[Con.rightP.rights]
  | cons p qs ih =>
    have d:=bv_ frm l ⟨1,a,[],p.atom,[],[],[],0,0,0⟩;have h:=Con.rightP_len frm _ p (Nat.le_refl _) (ins frm l ⟨1,a,[],p.atom,[],[],[],0,0,0⟩);have e:=ih (p.rightP frm (ins frm l ⟨1,a,[],p.atom,[],[],[],0,0,0⟩));simp only[Con.rightP.rights,Con.sz.szs];omega
theorem Con.headD_atom {ps:List Con} {p:Con} (d:ps[0]? = some p):(ps.map Con.atom).headD []=p.atom:=by cases ps<;>simp_all
theorem Con.leftP5 {c:Con} (h:c.kind=5) (frm:Int) (l:List Pc):c.leftP frm l=Con.andP frm c (c.parts.drop 1) 1 ((c.parts.map Con.atom).headD []) (Con.leftP.lefts frm c.parts l):=by rw[Con.leftP_eq,if_pos h]
theorem Con.leftP6 {c p:Con} (h:c.kind=6) (d:c.parts=[p]) (frm:Int) (l:List Pc):c.leftP frm l=ins frm (p.leftP frm l) ⟨4,p.atom,[],c.atom,c.name,[],[],0,0,0⟩:=by
  rw[Con.leftP_eq,if_neg za_,if_pos h,d];rfl
theorem Con.leftP7 {c:Con} (h:c.kind=7) (frm:Int) (l:List Pc):c.leftP frm l=ins frm l ⟨9,[],[],c.atom,c.name,[],[],c.lo,c.hi,0⟩:=by rw[Con.leftP_eq,if_neg za_,if_neg za_,if_pos h]
theorem Con.leftP0 {c:Con} (h:c.kind≠5) (e:c.kind≠6) (d:c.kind≠7) (frm:Int) (l:List Pc):c.leftP frm l=l:=by rw[Con.leftP_eq,if_neg h,if_neg e,if_neg d]
theorem Con.rightP5 {c:Con} (h:c.kind=5) (frm:Int) (l:List Pc):c.rightP frm l=Con.rightP.rights frm c.atom c.parts l:=by rw[Con.rightP_eq,if_pos h]
theorem Con.rightP6 {c p:Con} (h:c.kind=6) (d:c.parts=[p]) (frm:Int) (l:List Pc):c.rightP frm l=p.rightP frm (ins frm l ⟨3,c.atom,[],p.atom,c.name,[],[],0,0,0⟩):=by
  rw[Con.rightP_eq,if_neg za_,if_pos h,d];rfl
theorem Con.rightP7 {c:Con} (h:c.kind=7) (frm:Int) (l:List Pc):c.rightP frm l=ins frm l ⟨8,c.atom,[],[],c.name,[],[],c.lo,c.hi,0⟩:=by rw[Con.rightP_eq,if_neg za_,if_neg za_,if_pos h]
theorem Con.rightP0 {c:Con} (h:c.kind≠5) (e:c.kind≠6) (d:c.kind≠7) (frm:Int) (l:List Pc):c.rightP frm l=l:=by rw[Con.rightP_eq,if_neg h,if_neg e,if_neg d]
end Go.Proofs.YtpbnmnfdgckaiaaGreatDoor
