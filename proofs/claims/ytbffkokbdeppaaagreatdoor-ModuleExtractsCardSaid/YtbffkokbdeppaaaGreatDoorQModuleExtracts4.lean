/-
  Lemmas for the law ModuleExtracts (no condition).
-/
import Derived.Test.YtbffkokbdeppaaaGreatDoorQModuleExtracts3
import Derived.Test.YtbffkokbdeppaaaGreatDoorProg
set_option linter.unusedVariables false
set_option linter.unusedSimpArgs false
set_option linter.unusedSectionVars false
set_option maxHeartbeats 1000000
namespace Go.Proofs.YtbffkokbdeppaaaGreatDoor
open Go Go.Sx Go.Proofs Tryz
attribute [local irreducible] Code.wp wpList wpAnyH
open Go.Vs
theorem kJ_ {G:Prop} (h:G:=by
 refine Zz 6 ?_;exact met ⟨rfl,rfl,rfl,(n_ rfl (jaf d)),trivial⟩):G:=h
theorem rn_ (c:Con):Fn0 prog 194 #[c.val] (.bool c.empty):=by
 obtain⟨k,nm,lo,hi,ad,cap,ps⟩:=c;refine l_ func194 rfl rfl ntmps194 rfl λG=>?_;refine Zz 2 ?_;refine Q_ rfl rfl λx=>Zz 7 ?_
 refine A_ (al_ rfl rfl) rfl λF o=>Zz 1 ?_
 refine aB_ 4 ((k==0)&&(nm==[])) (λr=>[(0,.agg (Con.cells (Con.mk k nm lo hi ad cap ps)).toArray),(1,zp_ x 0),(2,.bool false),(10,.bool r)]) ?_ λE u=>?_
 .cases F
  .have d:=o
   replace o:=znb o;exact kJ_
  have d:=o;replace o:=zeb o;refine Zz 5 ?_;refine A_ (dR_ rfl rfl) rfl λA h=>Zz 3 ?_
  exact met ⟨rfl,rfl,rfl,(n_ rfl (jat d h)),trivial⟩
 refine Zz 1 ?_;refine aB_ 4 ((((k==0)&&(nm==[])))&&(lo==0)) (λr=>[(0,.agg (Con.cells (Con.mk k nm lo hi ad cap ps)).toArray),(1,zp_ x 0),(2,.bool false),(15,.bool r)]) ?_ λA h=>?_
 .cases E
  .have d:=u
   simp at u
   exact kJ_
  have d:=u;simp at u
  refine Zz 5 ?_;refine A_ (al_ rfl rfl) rfl λy e=>Zz 3 ?_
  exact met ⟨rfl,rfl,rfl,(n_ rfl (jat d e)),trivial⟩
 refine Zz 1 ?_;refine aB_ 4 ((((((k==0)&&(nm==[])))&&(lo==0)))&&(hi==0)) (λr=>[(0,.agg (Con.cells (Con.mk k nm lo hi ad cap ps)).toArray),(1,zp_ x 0),(2,.bool false),(20,.bool r)]) ?_ λy e=>?_
 .cases A
  .have d:=h
   simp at h
   exact kJ_
  have d:=h;simp at h
  refine Zz 5 ?_;refine A_ (al_ rfl rfl) rfl λC v=>Zz 3 ?_
  exact met ⟨rfl,rfl,rfl,(n_ rfl (jat d v)),trivial⟩
 refine Zz 1 ?_;refine aB_ 5 ((((((((k==0)&&(nm==[])))&&(lo==0)))&&(hi==0)))&&((ps.length:Int)==0)) (λr=>[(0,.agg (Con.cells (Con.mk k nm lo hi ad cap ps)).toArray),(2,.bool false),(26,.bool r)]) ?_ λC v=>?_
 .cases y
  .have d:=e
   simp at e
   refine Zz 7 ?_;exact met ⟨rfl,rfl,(n_ rfl (jaf d)),trivial⟩
  have d:=e;simp at e
  refine Zz 7 ?_;refine A_ (al_ rfl rfl) rfl λH B=>Zz 3 ?_
  exact met ⟨rfl,rfl,(n_ rfl (jat d B)),trivial⟩
 refine Zz 4 ?_;exact W_ results194 () (n_ rfl v.symm) (.refl _) zt
theorem sr_ {g:FuncId} {pred:Con->Bool} (c:Con) (y:c.ok) (F:∀ p∈c.parts,Tri prog g #[p.val] [] [p.memF] (λ_:Unit=>.bool (pred p)) (λ_=>[]) (λ_=>[])) :
    Tri prog 277 #[.slice c.ad c.parts.length c.cap,.func (.func g) #[] #[]] [] [c.memF] (λr:{r:Int // decide (0<=r)=c.parts.any pred}=>i4_ r.1) (λ_=>[]) (λ_=>[]):=by
  obtain⟨k,nm,lo,hi,ad,cap,ps⟩:=c;have u:=Con.ok_len y;simp only[Con.parts,Con.cap]at u;refine l_ func277 rfl rfl ntmps277 rfl λE=>?_;refine Zz 14 ?_;refine bc_ [(0,.slice ad ps.length cap),(1,.func (.func g) #[] #[]),(7,i4_ ps.length),(8,i4_ ((0:Nat):Int))] zl ?_;refine bs_ (ι:={q:Nat // q<=ps.length/\(ps.take q).any pred=false}) (λi=>[(0,.slice ad ps.length cap),(1,.func (.func g) #[] #[]),(7,i4_ ps.length),(8,i4_ i.1)]) (λ_=>_) (λ_=>_) (λi=>ps.length - i.1) ⟨0,by simp⟩ ?_;rintro ⟨i,B⟩;refine bc_ [(0,.slice ad ps.length cap),(1,.func (.func g) #[] #[]),(7,i4_ ps.length),(8,i4_ i)] zl ?_;refine Zj 2 (λo=>?_) λo=>?_
  . refine Zz 12 ?_;exact W_ results277 ⟨-1,by have:=B.2;rw[yac_ zaa_]at this;show _=ps.any pred;rw[this];rfl⟩ rfl (.refl _) zt
  . have e:i<ps.length:=by omega
    obtain⟨p,x⟩:∃ p,ps[i]? = some p:=⟨_,yaa_ e⟩;have d:p∈ps:=yad_ x;refine Zz 19 ?_;refine c_ (J_ z_ i_ rfl rfl (λv _ h=>az_ (n:=5) Con.cells_len zaj_ (((Con.mem_iff (.mk k nm lo hi ad cap ps) v).1 h.1).1) x) zaa_ zan_) rfl ?_;refine c_ (ax_ (ad:=ad) (us:=p.cells) H_ i_ rfl (λv _ h=>((Con.mem_iff (.mk k nm lo hi ad cap ps) v).1 h.1).1) (Con.cells_len _) (t_ Con.cells_len x)) rfl (le_ (F p d) rfl rfl (.refl _) (λv _ h=>by exact⟨Con.mem_part (c:=(.mk k nm lo hi ad cap ps)) h.1 d,trivial⟩) rfl λA C=>Zz 2 ?_);cases A
    . refine Zz 8 ?_;exact w_ ⟨i+1,e,by rw[Con.take_snoc x,List.any_append,B.2];simp[*]⟩ zaC_ zl (.refl _) zh
    . refine Zz 8 ?_;exact W_ results277 ⟨(i:Int),by show _=ps.any pred;rw[show ps.any pred=true from ybS_.2 ⟨p,d,by assumption⟩];exact ycc_ zaa_⟩ rfl (.refl _) zt
theorem oz_ {g:FuncId} {pred:Con->Bool} (c:Con) (e:c.ok) (o:∀ p∈c.parts,Tri prog g #[p.val] [] [p.memF] (λ_:Unit=>.bool (pred p)) (λ_=>[]) (λ_=>[])) :
    Tri prog 198 #[.slice c.ad c.parts.length c.cap,.func (.func g) #[] #[]] [] [c.memF] (λ_:Unit=>.bool (c.parts.any pred)) (λ_=>[]) (λ_=>[]):=by
  obtain⟨k,nm,lo,hi,ad,cap,ps⟩:=c;refine l_ func198 rfl rfl ntmps198 rfl λy=>?_;refine Zz 9 ?_;refine d_ (sr_ (.mk k nm lo hi ad cap ps) e o) rfl (.refl _) (λv _ h=>h) rfl λx=>A_ (fc_ rfl rfl) rfl λu d=>Zz 4 ?_
  exact W_ results198 () (n_ rfl (d.symm.trans x.2)) (.refl _) zt
theorem eq_:∀ (m:Nat) (c:Con),c.sz<=m->c.ok->Tri prog 116 #[c.val] [] [c.memF] (λ_:Unit=>.bool c.bare) (λ_=>[]) (λ_=>[]):=by
 intro m
 induction m with
 | zero=>intro c h;have:=c.sz_pos;omega
 | succ m ih =>
   intro c hm d;obtain⟨k,nm,lo,hi,ad,cap,ps⟩:=c;refine l_ func116 rfl rfl ntmps116 rfl λy=>?_;refine Zz 2 ?_;refine Q_ rfl rfl λA=>Zj 13 (λe=>?_) λe=>?_
   . refine Zj 6 (λo=>?_) λo=>?_
     . refine Zz 12 ?_;exact W_ results116 () (n_ rfl zbk_) (.refl _) zt
     . refine Zz 8 ?_;refine U_ (oz_ (pred:=Con.bare) (.mk k nm lo hi ad cap ps) d (λp u=>ih p (by have:=Con.sz_part (c:=(.mk k nm lo hi ad cap ps)) u;omega) (Con.ok_part (c:=(.mk k nm lo hi ad cap ps)) d u))) rfl (.refl _) (λv _ h=>h) rfl λB x=>?_;refine Zz 4 ?_;exact W_ results116 () (n_ rfl zbk_) (.refl _) zt
   . refine Zz 10 ?_;exact W_ results116 () (n_ rfl zbk_) (.refl _) zt
theorem hZ_ {G:Prop} (h:G:=by
 refine Zz 7 ?_;exact met ⟨rfl,rfl,rfl,rfl,rfl,rfl,rfl,rfl,rfl,rfl,(n_ rfl (jot rfl)),trivial⟩):G:=h
theorem fJ_ {G:Prop} (h:G:=by
 exact met ⟨rfl,rfl,rfl,rfl,rfl,rfl,rfl,rfl,rfl,(n_ rfl (jaf d)),trivial⟩):G:=h
theorem vx_ (x:Ax):Tri prog 113 #[x.val] [] [cy_] (λ_:Unit=>.bool x.shaped) (λ_=>[]) (λ_=>[]):=by
 obtain⟨k,Y,⟨kl,L,P,hl,al,cl,pl⟩,⟨M,J,lr,K,C,G,H⟩,ad,cap,V,S,a,b⟩:=x;refine l_ func113 rfl rfl ntmps113 rfl λv_1=>?_;refine Zz 2 ?_;refine Q_ rfl rfl λe=>Zz 8 ?_
 refine A_ (dw_ rfl rfl) rfl λa9 Q=>Zz 1 ?_
 refine aB_ 4 ((decide (k<1))||(decide (9<k))) (λr=>[(0,.agg (Ax.cells (Ax.mk k Y (Con.mk kl L P hl al cl pl) (Con.mk M J lr K C G H) ad cap V S a b)).toArray),(1,zp_ e 0),(2,.bool false),(11,.bool r)]) ?_ λa8 Z=>?_
 .cases a9
  .have d:=Q
   replace Q:=zdf Q;refine Zz 5 ?_;refine A_ (ec_ rfl rfl) rfl λa5 O=>Zz 3 ?_
   exact met (zm (jof d O))
  have d:=Q;replace Q:=zdt Q;refine Zz 6 ?_;exact met ⟨rfl,rfl,rfl,(n_ rfl (jot d)),trivial⟩
 refine Zz 2 ?_;cases a8
 .simp at Z
  obtain⟨u,hx⟩:∃ u,kQ_[k.toNat]? = some u:=⟨_,yaa_ (show k.toNat<10 by omega)⟩;have b0:us k=u:=by simp[us,hx]
  obtain⟨ul,I,R,T,ub,W,X⟩:=u;refine Zz 7 ?_;refine c_ (gL_ runUnderlying91 fh_ rfl rfl zck_ (by show k<(10:Int);omega)) rfl ?_;refine c_ (ax_ (ad:=some ⟨0,0,none⟩) (us:=Use.cells ⟨ul,I,R,T,ub,W,X⟩) isAgg90 fh_ rfl (λv _ h=>h.1.2.1) (Use.cells_len _) (t_ Use.cells_len hx)) rfl (K_ zeroValue90 rfl λB=>o_ 0 fh_ rfl rfl rfl rfl rfl rfl (Zz 7 ?_));let Pu:Array Value:=#[.bool ul,.bool I,.bool R,.bool T,.bool ub,i4_ W,i4_ X];refine aB_ 4 ((ul)||(Con.empty (.mk kl L P hl al cl pl))) (λr=>[(0,.agg (Ax.cells (Ax.mk k Y (Con.mk kl L P hl al cl pl) (Con.mk M J lr K C G H) ad cap V S a b)).toArray),(1,zp_ e 0),(2,.bool false),(11,.bool false),(12,zp_ e 0),(13,i4_ k),(14,.pointer (some (rad (some ⟨0,0,none⟩) (k.toNat*7)))),(15,.agg Pu),(3,zp_ B 0),(22,.bool r)]) ?_ λa5 O=>?_
  .cases ul
   .refine Zz 5 ?_;refine U_ (rn_ (.mk kl L P hl al cl pl)) rfl (.refl _) zt rfl λa6 F=>Zz 3 ?_
    exact met (zm (jof rfl F))
   refine Zz 6 ?_;exact met ⟨rfl,rfl,rfl,rfl,rfl,rfl,rfl,rfl,rfl,(n_ rfl (jot rfl)),trivial⟩
  refine Zz 1 ?_;refine aB_ 8 ((((ul)||(Con.empty (.mk kl L P hl al cl pl))))&&(((I)||(Con.empty (.mk M J lr K C G H))))) (λr=>[(0,.agg (Ax.cells (Ax.mk k Y (Con.mk kl L P hl al cl pl) (Con.mk M J lr K C G H) ad cap V S a b)).toArray),(1,zp_ e 0),(2,.bool false),(11,.bool false),(12,zp_ e 0),(13,i4_ k),(14,.pointer (some (rad (some ⟨0,0,none⟩) (k.toNat*7)))),(15,.agg Pu),(3,zp_ B 0),(31,.bool r)]) ?_ λa6 F=>?_
  .cases a5
   .have d:=O
    simp at O
    refine Zz 10 ?_;exact fJ_
   have d:=O;simp at O
   refine Zz 6 ?_;refine aB_ 4 ((I)||(Con.empty (.mk M J lr K C G H))) (λr=>[(0,.agg (Ax.cells (Ax.mk k Y (Con.mk kl L P hl al cl pl) (Con.mk M J lr K C G H) ad cap V S a b)).toArray),(1,zp_ e 0),(2,.bool false),(11,.bool false),(12,zp_ e 0),(13,i4_ k),(14,.pointer (some (rad (some ⟨0,0,none⟩) (k.toNat*7)))),(15,.agg Pu),(3,zp_ B 0),(23,.bool true),(30,.bool r)]) ?_ λa4 E=>?_
   .cases I
    .refine Zz 5 ?_;refine U_ (rn_ (.mk M J lr K C G H)) rfl (.refl _) zt rfl λa0 A=>Zz 4 ?_
     exact met (zm (jof rfl A))
    exact hZ_
   refine Zz 3 ?_;exact met ⟨rfl,rfl,rfl,rfl,rfl,rfl,rfl,rfl,rfl,(n_ rfl (jat d E)),trivial⟩
  refine Zz 1 ?_;refine aB_ 8 ((((((ul)||(Con.empty (.mk kl L P hl al cl pl))))&&(((I)||(Con.empty (.mk M J lr K C G H))))))&&(((R)||(S==[])))) (λr=>[(0,.agg (Ax.cells (Ax.mk k Y (Con.mk kl L P hl al cl pl) (Con.mk M J lr K C G H) ad cap V S a b)).toArray),(1,zp_ e 0),(2,.bool false),(11,.bool false),(12,zp_ e 0),(13,i4_ k),(14,.pointer (some (rad (some ⟨0,0,none⟩) (k.toNat*7)))),(15,.agg Pu),(3,zp_ B 0),(40,.bool r)]) ?_ λa4 E=>?_
  .cases a6
   .have d:=F
    simp at F
    refine Zz 10 ?_;exact fJ_
   have d:=F;simp at F
   refine Zz 6 ?_;refine aB_ 4 ((R)||(S==[])) (λr=>[(0,.agg (Ax.cells (Ax.mk k Y (Con.mk kl L P hl al cl pl) (Con.mk M J lr K C G H) ad cap V S a b)).toArray),(1,zp_ e 0),(2,.bool false),(11,.bool false),(12,zp_ e 0),(13,i4_ k),(14,.pointer (some (rad (some ⟨0,0,none⟩) (k.toNat*7)))),(15,.agg Pu),(3,zp_ B 0),(32,.bool true),(39,.bool r)]) ?_ λa0 A=>?_
   .cases R
    .refine Zz 5 ?_;refine A_ (dR_ rfl rfl) rfl λa3 y=>Zz 4 ?_
     exact met (zm (jof rfl y))
    exact hZ_
   refine Zz 3 ?_;exact met ⟨rfl,rfl,rfl,rfl,rfl,rfl,rfl,rfl,rfl,(n_ rfl (jat d A)),trivial⟩
  refine Zz 1 ?_;refine aB_ 8 ((((((((ul)||(Con.empty (.mk kl L P hl al cl pl))))&&(((I)||(Con.empty (.mk M J lr K C G H))))))&&(((R)||(S==[])))))&&(((T)||(a==[])))) (λr=>[(0,.agg (Ax.cells (Ax.mk k Y (Con.mk kl L P hl al cl pl) (Con.mk M J lr K C G H) ad cap V S a b)).toArray),(1,zp_ e 0),(2,.bool false),(11,.bool false),(12,zp_ e 0),(13,i4_ k),(14,.pointer (some (rad (some ⟨0,0,none⟩) (k.toNat*7)))),(15,.agg Pu),(3,zp_ B 0),(49,.bool r)]) ?_ λa0 A=>?_
  .cases a4
   .have d:=E
    simp at E
    refine Zz 10 ?_;exact fJ_
   have d:=E;simp at E
   refine Zz 6 ?_;refine aB_ 4 ((T)||(a==[])) (λr=>[(0,.agg (Ax.cells (Ax.mk k Y (Con.mk kl L P hl al cl pl) (Con.mk M J lr K C G H) ad cap V S a b)).toArray),(1,zp_ e 0),(2,.bool false),(11,.bool false),(12,zp_ e 0),(13,i4_ k),(14,.pointer (some (rad (some ⟨0,0,none⟩) (k.toNat*7)))),(15,.agg Pu),(3,zp_ B 0),(41,.bool true),(48,.bool r)]) ?_ λa3 y=>?_
   .cases T
    .refine Zz 5 ?_;refine A_ (dR_ rfl rfl) rfl λa2 o=>Zz 4 ?_
     exact met (zm (jof rfl o))
    exact hZ_
   refine Zz 3 ?_;exact met ⟨rfl,rfl,rfl,rfl,rfl,rfl,rfl,rfl,rfl,(n_ rfl (jat d y)),trivial⟩
  refine Zz 1 ?_;refine aB_ 8 ((((((((((ul)||(Con.empty (.mk kl L P hl al cl pl))))&&(((I)||(Con.empty (.mk M J lr K C G H))))))&&(((R)||(S==[])))))&&(((T)||(a==[])))))&&(((ub)||(b==[])))) (λr=>[(0,.agg (Ax.cells (Ax.mk k Y (Con.mk kl L P hl al cl pl) (Con.mk M J lr K C G H) ad cap V S a b)).toArray),(1,zp_ e 0),(2,.bool false),(11,.bool false),(12,zp_ e 0),(13,i4_ k),(14,.pointer (some (rad (some ⟨0,0,none⟩) (k.toNat*7)))),(15,.agg Pu),(3,zp_ B 0),(58,.bool r)]) ?_ λa3 y=>?_
  .cases a0
   .have d:=A
    simp at A
    refine Zz 10 ?_;exact fJ_
   have d:=A;simp at A
   refine Zz 6 ?_;refine aB_ 4 ((ub)||(b==[])) (λr=>[(0,.agg (Ax.cells (Ax.mk k Y (Con.mk kl L P hl al cl pl) (Con.mk M J lr K C G H) ad cap V S a b)).toArray),(1,zp_ e 0),(2,.bool false),(11,.bool false),(12,zp_ e 0),(13,i4_ k),(14,.pointer (some (rad (some ⟨0,0,none⟩) (k.toNat*7)))),(15,.agg Pu),(3,zp_ B 0),(50,.bool true),(57,.bool r)]) ?_ λa2 o=>?_
   .cases ub
    .refine Zz 5 ?_;refine A_ (dR_ rfl rfl) rfl λa7 U=>Zz 4 ?_
     exact met (zm (jof rfl U))
    exact hZ_
   refine Zz 3 ?_;exact met ⟨rfl,rfl,rfl,rfl,rfl,rfl,rfl,rfl,rfl,(n_ rfl (jat d o)),trivial⟩
  refine Zz 1 ?_;refine aB_ 7 ((((((((((((ul)||(Con.empty (.mk kl L P hl al cl pl))))&&(((I)||(Con.empty (.mk M J lr K C G H))))))&&(((R)||(S==[])))))&&(((T)||(a==[])))))&&(((ub)||(b==[])))))&&(decide (W<=(V.length:Int)))) (λr=>[(0,.agg (Ax.cells (Ax.mk k Y (Con.mk kl L P hl al cl pl) (Con.mk M J lr K C G H) ad cap V S a b)).toArray),(1,zp_ e 0),(2,.bool false),(11,.bool false),(12,zp_ e 0),(13,i4_ k),(14,.pointer (some (rad (some ⟨0,0,none⟩) (k.toNat*7)))),(15,.agg Pu),(3,zp_ B 0),(66,.bool r)]) ?_ λa2 o=>?_
  .cases a3
   .have d:=y
    simp at y
    refine Zz 9 ?_;exact fJ_
   have d:=y;simp at y
   refine Zz 11 ?_;refine A_ (fc_ rfl rfl) rfl λa7 U=>Zz 3 ?_
   exact met ⟨rfl,rfl,rfl,rfl,rfl,rfl,rfl,rfl,rfl,(n_ rfl (jat d U)),trivial⟩
  refine Zz 1 ?_;refine aB_ 7 ((((((((((((((ul)||(Con.empty (.mk kl L P hl al cl pl))))&&(((I)||(Con.empty (.mk M J lr K C G H))))))&&(((R)||(S==[])))))&&(((T)||(a==[])))))&&(((ub)||(b==[])))))&&(decide (W<=(V.length:Int)))))&&(decide ((V.length:Int)<=X))) (λr=>[(0,.agg (Ax.cells (Ax.mk k Y (Con.mk kl L P hl al cl pl) (Con.mk M J lr K C G H) ad cap V S a b)).toArray),(1,zp_ e 0),(2,.bool false),(11,.bool false),(12,zp_ e 0),(13,i4_ k),(14,.pointer (some (rad (some ⟨0,0,none⟩) (k.toNat*7)))),(15,.agg Pu),(3,zp_ B 0),(74,.bool r)]) ?_ λa7 U=>?_
  .cases a2
   .have d:=o
    simp at o
    refine Zz 9 ?_;exact fJ_
   have d:=o;simp at o
   refine Zz 11 ?_;refine A_ (dx_ rfl rfl) rfl λr_10 a1=>Zz 3 ?_
   exact met ⟨rfl,rfl,rfl,rfl,rfl,rfl,rfl,rfl,rfl,(n_ rfl (jat d a1)),trivial⟩
  refine Zz 4 ?_;exact W_ results113 () (n_ rfl (by unfold Ax.shaped;rw[yam_ (by simp only[not_or];omega)];simp only[b0];exact U.symm)) (.refl _) zt
 simp at Z
 refine Zz 7 ?_;exact W_ results113 () (n_ rfl (by unfold Ax.shaped;rw[yax_ (by simpa using Z)])) (.refl _) zt
theorem pn (s:Str):(((if bk_ s then 0 else 20):Int) != 0)=!bk_ s:=by grind
theorem ym_ (x:Ax) (F:x.ok) (u:Use):Tri prog 114 #[x.val,.agg u.cells.toArray] [] [x.memF] (λ_:Unit=>.bool (x.namedU u)) (λ_=>[]) (λ_=>[]):=by
 obtain⟨k,Z,⟨kl,Y,ll,hl,al,cl,pl⟩,⟨kr,V,lr,X,M,R,T⟩,ad,cap,o,G,a,b⟩:=x;obtain⟨ul,U,E,C,ub,um,W⟩:=u;have S:=F.len;have Q:=F.cap;dsimp only at S Q;refine l_ func114 rfl rfl ntmps114 rfl λv_1=>?_;refine Zz 2 ?_;refine Q_ rfl rfl λB=>Q_ rfl rfl λJ=>Zz 9 ?_
 let Pu:Array Value:=#[.bool ul,.bool U,.bool E,.bool C,.bool ub,i4_ um,i4_ W];refine aB_ 5 ((E)&&(!(bO_ G))) (λr=>[(0,.agg (Ax.cells (Ax.mk k Z (Con.mk kl Y ll hl al cl pl) (Con.mk kr V lr X M R T) ad cap o G a b)).toArray),(1,.agg Pu),(2,zp_ B 0),(3,zp_ J 0),(4,.bool false),(14,.bool r)]) ?_ λr_1 I=>?_
 .cases E
  .refine Zz 7 ?_;exact met ⟨rfl,rfl,rfl,rfl,rfl,(n_ rfl (jaf rfl)),trivial⟩
  refine Zz 5 ?_;refine U_ (hM_ _) rfl (.refl _) zt rfl λO A=>as_ rfl rfl (c_ (aI_ rfl) rfl (Zz 3 ?_))
  exact met ⟨rfl,rfl,rfl,rfl,rfl,(n_ rfl (jat rfl (jn A))),trivial⟩
 refine Zz 1 ?_;refine aB_ 9 ((((E)&&(!(bO_ G))))||(((C)&&(((if bk_ a then 0 else 20):Int) != 0)))) (λr=>[(0,.agg (Ax.cells (Ax.mk k Z (Con.mk kl Y ll hl al cl pl) (Con.mk kr V lr X M R T) ad cap o G a b)).toArray),(1,.agg Pu),(2,zp_ B 0),(3,zp_ J 0),(4,.bool false),(24,.bool r)]) ?_ λO A=>?_
 .cases r_1
  .have d:=I
   refine Zz 6 ?_;refine aB_ 5 ((C)&&(((if bk_ a then 0 else 20):Int) != 0)) (λr=>[(0,.agg (Ax.cells (Ax.mk k Z (Con.mk kl Y ll hl al cl pl) (Con.mk kr V lr X M R T) ad cap o G a b)).toArray),(1,.agg Pu),(2,zp_ B 0),(3,zp_ J 0),(4,.bool false),(15,.bool false),(23,.bool r)]) ?_ λP e=>?_
   .cases C
    .refine Zz 8 ?_;exact met ⟨rfl,rfl,rfl,rfl,rfl,rfl,(n_ rfl (jaf rfl)),trivial⟩
    refine Zz 5 ?_;refine d_ (eH_ _ F.a) rfl (.refl _) zt rfl λ_=>as_ rfl rfl (A_ (cP_ rfl rfl) rfl λK y=>Zz 4 ?_)
    exact met ⟨rfl,rfl,rfl,rfl,rfl,rfl,(n_ rfl (jat rfl y)),trivial⟩
   refine Zz 3 ?_;exact met (zm (jof d e))
  have d:=I;refine Zz 11 ?_;exact met ⟨rfl,rfl,rfl,rfl,rfl,(n_ rfl (jot d)),trivial⟩
 refine Zz 1 ?_;refine aB_ 9 ((((((E)&&(!(bO_ G))))||(((C)&&(((if bk_ a then 0 else 20):Int) != 0)))))||(((ub)&&(((if bk_ b then 0 else 20):Int) != 0)))) (λr=>[(0,.agg (Ax.cells (Ax.mk k Z (Con.mk kl Y ll hl al cl pl) (Con.mk kr V lr X M R T) ad cap o G a b)).toArray),(1,.agg Pu),(2,zp_ B 0),(4,.bool false),(34,.bool r)]) ?_ λP e=>?_
 .cases O
  .have d:=A
   refine Zz 6 ?_;refine aB_ 5 ((ub)&&(((if bk_ b then 0 else 20):Int) != 0)) (λr=>[(0,.agg (Ax.cells (Ax.mk k Z (Con.mk kl Y ll hl al cl pl) (Con.mk kr V lr X M R T) ad cap o G a b)).toArray),(1,.agg Pu),(2,zp_ B 0),(4,.bool false),(25,.bool false),(33,.bool r)]) ?_ λK y=>?_
   .cases ub
    .refine Zz 8 ?_;exact met ⟨rfl,rfl,rfl,rfl,rfl,(n_ rfl (jaf rfl)),trivial⟩
    refine Zz 5 ?_;refine d_ (eH_ _ F.b) rfl (.refl _) zt rfl λ_=>as_ rfl rfl (A_ (cP_ rfl rfl) rfl λr_5 H=>Zz 4 ?_)
    exact met ⟨rfl,rfl,rfl,rfl,rfl,(n_ rfl (jat rfl H)),trivial⟩
   refine Zz 3 ?_;exact met (zm (jof d y))
  have d:=A;refine Zz 11 ?_;exact met ⟨rfl,rfl,rfl,rfl,(n_ rfl (jot d)),trivial⟩
 refine Zz 2 ?_;cases P
 .refine Zz 13 ?_;refine bc_ [(36,.slice ad o.length cap),(37,i4_ o.length),(38,i4_ ((0:Nat):Int))] zl ?_;refine bs_ (ι:={q:Nat // q<=o.length/\(o.take q).all bO_=true}) (λi=>[(36,.slice ad o.length cap),(37,i4_ o.length),(38,i4_ i.1)]) (λ_=>_) (λ_=>_) (λi=>o.length - i.1) ⟨0,by simp⟩ ?_;rintro ⟨i,hk⟩;refine bc_ [(36,.slice ad o.length cap),(37,i4_ o.length),(38,i4_ i)] zl ?_;refine Zj 2 (λy=>?_) λy=>?_
  .refine Zz 12 ?_
   exact W_ results114 () (n_ rfl (by have hf:o.all bO_=true:=(by have:=hk.2;rwa [yac_ zaa_]at this);unfold Ax.namedU;simp only[pn]at e;simp only[hf,e];rfl)) (.refl _) zt
  have L:i<o.length:=by omega
  obtain⟨q,hp⟩:∃ q,o[i]? = some q:=⟨_,yaa_ L⟩;refine Zz 10 ?_;refine c_ (J_ m_ B_ rfl rfl (λv _ h=>az_ (n:=1) au_ zaj_ (h.1.2.2) hp) zaa_ zan_) rfl ?_;refine Zz 7 ?_;refine U_ (hM_ _) rfl (.refl _) zt rfl λK H=>c_ (aI_ rfl) rfl (Zz 2 ?_)
  cases K
  .refine Zz 7 ?_;exact W_ results114 () (n_ rfl (by have hf:o.all bO_=false:=ycC_.2 ⟨q,yad_ hp,by simp[*]⟩;unfold Ax.namedU;simp only[hf,Bool.and_false])) (.refl _) zt
  refine Zz 8 ?_;exact w_ ⟨i+1,L,by rw[yao_,hp];simp only[ybf_,ydf_,hk.2];simp[*]⟩ zaC_ zl (.refl _) zh
 refine Zz 7 ?_;exact W_ results114 () (n_ rfl (by unfold Ax.namedU;simp only[pn]at e;simp only[e];rfl)) (.refl _) zt
theorem Ax.shaped_kind {x:Ax} (h:x.shaped=true):1<=x.kind/\x.kind<=9:=by
  grind[Ax.shaped]
theorem gI_ {G:Prop} (h:G:=by
 refine Zz 9 ?_;exact ex_):G:=h
theorem fI_ {G:Prop} (h:G:=by
 refine Zz 7 ?_;exact ex_):G:=h
theorem oK_ {G:Prop} (h:G:=by
 refine U_ (eq_ _ (.mk J H lr I E F G) (yab_ _) B.right) rfl (.refl _) (λv _ h=>⟨h.1.2.1,trivial⟩) rfl λo Q=>Zz 2 ?_
 exact gJ_):G:=h
theorem oL_ {G:Prop} (h:G:=by
 refine Zz 11 ?_;refine U_ (eq_ _ (.mk J H lr I E F G) (yab_ _) B.right) rfl (.refl _) (λv _ h=>⟨h.1.2.1,trivial⟩) rfl λo e=>Zz 2 ?_
 exact gJ_):G:=h
theorem kI_ {G:Prop} (h:G:=by
 refine U_ (eq_ _ (.mk J H lr I E F G) (yab_ _) B.right) rfl (.refl _) (λv _ h=>⟨h.1.2.1,trivial⟩) rfl λo A=>Zz 2 ?_
 exact gJ_):G:=h
theorem oM_ {G:Prop} (h:G:=by
 cases o
 .have C:=y
  refine Zz 5 ?_;refine U_ (eq_ _ (.mk J H lr I E F G) (yab_ _) B.right) rfl (.refl _) (λv _ h=>⟨h.1.2.1,trivial⟩) rfl λa0 A=>Zz 3 ?_
  exact met (zm (jof C A))
 have C:=y;refine Zz 6 ?_;exact met ⟨rfl,rfl,rfl,rfl,rfl,rfl,rfl,rfl,rfl,rfl,rfl,rfl,rfl,rfl,rfl,rfl,rfl,rfl,rfl,rfl,rfl,rfl,rfl,rfl,rfl,rfl,rfl,rfl,rfl,(n_ rfl (jot C)),trivial⟩):G:=h
theorem gJ_ {G:Prop} (h:G:=by
 cases o
 .exact gI_
 exact fI_):G:=h
theorem oN_ {G:Prop} (h:G:=by
 refine Zj 7 (λy=>?_) λy=>?_
 .refine Zj 6 (λe=>?_) λe=>?_
  .refine Zj 5 (λA=>?_) λA=>?_
   .refine Zz 12 ?_
    exact ex_
   refine Zz 8 ?_;exact oK_
  refine Zz 11 ?_;exact kI_
 exact oL_):G:=h
theorem ex_ {G:Prop} (h:G:=by
 exact W_ results53 () (aV_ rfl (by unfold Ax.check;simp only[d];simp_all)) (.refl _) zt):G:=h
theorem gE_ (x:Ax) (B:x.ok):Tri prog 53 #[x.val] [] [x.memF,cy_] (λ_:Unit=>i4_ x.check) (λ_=>[]) (λ_=>[]):=by
 obtain⟨k,V,⟨kl,M,O,hl,al,cl,pl⟩,⟨J,H,lr,I,E,F,G⟩,ad,cap,U,T,a,b⟩:=x;refine l_ func53 rfl rfl ntmps53 rfl λv_1=>?_;refine Zz 2 ?_;refine Q_ rfl rfl λK=>Zz 7 ?_
 refine U_ (vx_ ⟨k,V,(.mk kl M O hl al cl pl),(.mk J H lr I E F G),ad,cap,U,T,a,b⟩) rfl (.refl _) zf rfl λr_1 a1=>c_ (aI_ rfl) rfl (Zz 2 ?_)
 cases r_1
 .refine Zz 7 ?_;exact W_ results53 () (aV_ rfl (by unfold Ax.check;simp_all)) (.refl _) zt
 have hk_1:1<=k/\k<=9:=Ax.shaped_kind a1;obtain⟨u,hx⟩:∃ u,kQ_[k.toNat]? = some u:=⟨_,yaa_ (show k.toNat<10 by omega)⟩;have d:us k=u:=by simp[us,hx]
 obtain⟨ul,ur,Y,W,ub,Z,X⟩:=u;refine Zz 7 ?_;refine c_ (gL_ runUnderlying91 fh_ rfl rfl zck_ (by show k<(10:Int);omega)) rfl ?_;refine c_ (ax_ (ad:=some ⟨0,0,none⟩) (us:=Use.cells ⟨ul,ur,Y,W,ub,Z,X⟩) isAgg90 fh_ rfl (λv _ h=>h.2.1.2.1) (Use.cells_len _) (t_ Use.cells_len hx)) rfl (K_ zeroValue90 rfl λP=>o_ 0 fh_ rfl rfl rfl rfl rfl rfl (Zz 7 ?_));refine U_ (ym_ ⟨k,V,(.mk kl M O hl al cl pl),(.mk J H lr I E F G),ad,cap,U,T,a,b⟩ B ⟨ul,ur,Y,W,ub,Z,X⟩) rfl (.refl _) zf rfl λr_2 hr_2=>c_ (aI_ rfl) rfl (Zz 2 ?_)
 cases r_2
 .exact fI_
 refine Zz 10 ?_;cases ul
 .refine Zz 10 ?_;cases ur
  .refine Zj 13 (λR=>?_) λR=>?_
   .refine Zj 7 (λL=>?_) λL=>?_
    .refine Zj 6 (λy=>?_) λy=>?_
     .refine Zj 5 (λe=>?_) λe=>?_
      .refine Zz 12 ?_
       exact ex_
      refine Zz 8 ?_;exact kI_
     exact oL_
    refine Zz 11 ?_;refine U_ (eq_ _ (.mk J H lr I E F G) (yab_ _) B.right) rfl (.refl _) (λv _ h=>⟨h.1.2.1,trivial⟩) rfl λo y=>Zz 2 ?_
    exact gJ_
   refine Zz 8 ?_;refine U_ (eq_ _ (.mk kl M O hl al cl pl) (yab_ _) B.left) rfl (.refl _) (λv _ h=>⟨h.1.1,trivial⟩) rfl λo L=>Zz 1 ?_
   let Pu:Array Value:=#[.bool false,.bool false,.bool Y,.bool W,.bool ub,i4_ Z,i4_ X];refine aB_ 4 ((Con.bare (.mk kl M O hl al cl pl))||(Con.bare (.mk J H lr I E F G))) (λr=>[(0,.agg (Ax.cells (Ax.mk k V (Con.mk kl M O hl al cl pl) (Con.mk J H lr I E F G) ad cap U T a b)).toArray),(1,zp_ K 0),(2,i4_ 0),(6,.agg (Ax.cells (Ax.mk k V (Con.mk kl M O hl al cl pl) (Con.mk J H lr I E F G) ad cap U T a b)).toArray),(7,.bool true),(8,.bool false),(9,zp_ K 0),(10,i4_ k),(11,.pointer (some (rad (some ⟨0,0,none⟩) (k.toNat*7)))),(12,.agg Pu),(3,zp_ P 0),(13,.agg (Ax.cells (Ax.mk k V (Con.mk kl M O hl al cl pl) (Con.mk J H lr I E F G) ad cap U T a b)).toArray),(14,.agg Pu),(15,.bool true),(16,.bool false),(17,zp_ P 0),(18,.bool false),(25,zp_ P 1),(26,.bool false),(33,zp_ K 0),(34,i4_ k),(36,.bool true),(35,.bool true),(44,.bool r)]) ?_ λS y=>?_
   .cases o
    .have C:=L
     refine Zz 5 ?_;refine U_ (eq_ _ (.mk J H lr I E F G) (yab_ _) B.right) rfl (.refl _) (λv _ h=>⟨h.1.2.1,trivial⟩) rfl λa0 e=>Zz 3 ?_
     exact met (zm (jof C e))
    have C:=L;refine Zz 6 ?_;exact met ⟨rfl,rfl,rfl,rfl,rfl,rfl,rfl,rfl,rfl,rfl,rfl,rfl,rfl,rfl,rfl,rfl,rfl,rfl,rfl,rfl,rfl,rfl,rfl,(n_ rfl (jot C)),trivial⟩
   refine Zz 2 ?_;cases S
   .simp at y
    exact gI_
   simp at y
   exact fI_
  refine Zz 5 ?_;refine d_ (fE_ (.mk J H lr I E F G) B.right) rfl (.refl _) (λv _ h=>⟨h.1.2.1,h.2.1,trivial⟩) rfl λ_=>Zj 6 (λR=>?_) λR=>?_
  .refine Zj 15 (λL=>?_) λL=>?_
   .exact oN_
   refine Zz 8 ?_;refine U_ (eq_ _ (.mk kl M O hl al cl pl) (yab_ _) B.left) rfl (.refl _) (λv _ h=>⟨h.1.1,trivial⟩) rfl λo y=>Zz 1 ?_
   let Qu:Array Value:=#[.bool false,.bool true,.bool Y,.bool W,.bool ub,i4_ Z,i4_ X];refine aB_ 4 ((Con.bare (.mk kl M O hl al cl pl))||(Con.bare (.mk J H lr I E F G))) (λr=>[(0,.agg (Ax.cells (Ax.mk k V (Con.mk kl M O hl al cl pl) (Con.mk J H lr I E F G) ad cap U T a b)).toArray),(1,zp_ K 0),(2,i4_ 0),(6,.agg (Ax.cells (Ax.mk k V (Con.mk kl M O hl al cl pl) (Con.mk J H lr I E F G) ad cap U T a b)).toArray),(7,.bool true),(8,.bool false),(9,zp_ K 0),(10,i4_ k),(11,.pointer (some (rad (some ⟨0,0,none⟩) (k.toNat*7)))),(12,.agg Qu),(3,zp_ P 0),(13,.agg (Ax.cells (Ax.mk k V (Con.mk kl M O hl al cl pl) (Con.mk J H lr I E F G) ad cap U T a b)).toArray),(14,.agg Qu),(15,.bool true),(16,.bool false),(17,zp_ P 0),(18,.bool false),(25,zp_ P 1),(26,.bool true),(27,zp_ K 7),(28,.agg (Con.cells (Con.mk J H lr I E F G)).toArray),(29,i4_ (Con.check (.mk J H lr I E F G))),(5,i4_ (Con.check (.mk J H lr I E F G))),(30,i4_ (Con.check (.mk J H lr I E F G))),(31,.bool false),(33,zp_ K 0),(34,i4_ k),(36,.bool true),(35,.bool true),(44,.bool r)]) ?_ λS e=>?_
   .exact oM_
   refine Zz 2 ?_;cases S
   .simp at e
    exact gI_
   simp at e
   exact fI_
  refine Zz 10 ?_;exact ex_
 refine Zz 5 ?_;refine d_ (fE_ (.mk kl M O hl al cl pl) B.left) rfl (.refl _) (λv _ h=>⟨h.1.1,h.2.1,trivial⟩) rfl λ_=>Zj 6 (λR=>?_) λR=>?_
 .refine Zz 12 ?_
  cases ur
  .refine Zj 13 (λL=>?_) λL=>?_
   .exact oN_
   refine Zz 8 ?_;refine U_ (eq_ _ (.mk kl M O hl al cl pl) (yab_ _) B.left) rfl (.refl _) (λv _ h=>⟨h.1.1,trivial⟩) rfl λo y=>Zz 1 ?_
   let Ru:Array Value:=#[.bool true,.bool false,.bool Y,.bool W,.bool ub,i4_ Z,i4_ X];refine aB_ 4 ((Con.bare (.mk kl M O hl al cl pl))||(Con.bare (.mk J H lr I E F G))) (λr=>[(0,.agg (Ax.cells (Ax.mk k V (Con.mk kl M O hl al cl pl) (Con.mk J H lr I E F G) ad cap U T a b)).toArray),(1,zp_ K 0),(2,i4_ 0),(6,.agg (Ax.cells (Ax.mk k V (Con.mk kl M O hl al cl pl) (Con.mk J H lr I E F G) ad cap U T a b)).toArray),(7,.bool true),(8,.bool false),(9,zp_ K 0),(10,i4_ k),(11,.pointer (some (rad (some ⟨0,0,none⟩) (k.toNat*7)))),(12,.agg Ru),(3,zp_ P 0),(13,.agg (Ax.cells (Ax.mk k V (Con.mk kl M O hl al cl pl) (Con.mk J H lr I E F G) ad cap U T a b)).toArray),(14,.agg Ru),(15,.bool true),(16,.bool false),(17,zp_ P 0),(18,.bool true),(19,zp_ K 2),(20,.agg (Con.cells (Con.mk kl M O hl al cl pl)).toArray),(21,i4_ (Con.check (.mk kl M O hl al cl pl))),(4,i4_ (Con.check (.mk kl M O hl al cl pl))),(22,i4_ (Con.check (.mk kl M O hl al cl pl))),(23,.bool false),(25,zp_ P 1),(26,.bool false),(33,zp_ K 0),(34,i4_ k),(36,.bool true),(35,.bool true),(44,.bool r)]) ?_ λS e=>?_
   .exact oM_
   refine Zz 2 ?_;cases S
   .simp at e
    exact gI_
   simp at e
   exact fI_
  refine Zz 5 ?_;refine d_ (fE_ (.mk J H lr I E F G) B.right) rfl (.refl _) (λv _ h=>⟨h.1.2.1,h.2.1,trivial⟩) rfl λ_=>Zj 6 (λL=>?_) λL=>?_
  .refine Zj 15 (λy=>?_) λy=>?_
   .refine Zj 7 (λe=>?_) λe=>?_
    .refine Zj 6 (λA=>?_) λA=>?_
     .refine Zj 5 (λQ=>?_) λQ=>?_
      .refine Zz 12 ?_
       exact ex_
      refine Zz 8 ?_;refine U_ (eq_ _ (.mk J H lr I E F G) (yab_ _) B.right) rfl (.refl _) (λv _ h=>⟨h.1.2.1,trivial⟩) rfl λo hr_9=>Zz 2 ?_
      exact gJ_
     refine Zz 11 ?_;exact oK_
    refine Zz 11 ?_;exact kI_
   refine Zz 8 ?_;refine U_ (eq_ _ (.mk kl M O hl al cl pl) (yab_ _) B.left) rfl (.refl _) (λv _ h=>⟨h.1.1,trivial⟩) rfl λo e=>Zz 1 ?_
   let Su:Array Value:=#[.bool true,.bool true,.bool Y,.bool W,.bool ub,i4_ Z,i4_ X];refine aB_ 4 ((Con.bare (.mk kl M O hl al cl pl))||(Con.bare (.mk J H lr I E F G))) (λr=>[(0,.agg (Ax.cells (Ax.mk k V (Con.mk kl M O hl al cl pl) (Con.mk J H lr I E F G) ad cap U T a b)).toArray),(1,zp_ K 0),(2,i4_ 0),(6,.agg (Ax.cells (Ax.mk k V (Con.mk kl M O hl al cl pl) (Con.mk J H lr I E F G) ad cap U T a b)).toArray),(7,.bool true),(8,.bool false),(9,zp_ K 0),(10,i4_ k),(11,.pointer (some (rad (some ⟨0,0,none⟩) (k.toNat*7)))),(12,.agg Su),(3,zp_ P 0),(13,.agg (Ax.cells (Ax.mk k V (Con.mk kl M O hl al cl pl) (Con.mk J H lr I E F G) ad cap U T a b)).toArray),(14,.agg Su),(15,.bool true),(16,.bool false),(17,zp_ P 0),(18,.bool true),(19,zp_ K 2),(20,.agg (Con.cells (Con.mk kl M O hl al cl pl)).toArray),(21,i4_ (Con.check (.mk kl M O hl al cl pl))),(4,i4_ (Con.check (.mk kl M O hl al cl pl))),(22,i4_ (Con.check (.mk kl M O hl al cl pl))),(23,.bool false),(25,zp_ P 1),(26,.bool true),(27,zp_ K 7),(28,.agg (Con.cells (Con.mk J H lr I E F G)).toArray),(29,i4_ (Con.check (.mk J H lr I E F G))),(5,i4_ (Con.check (.mk J H lr I E F G))),(30,i4_ (Con.check (.mk J H lr I E F G))),(31,.bool false),(33,zp_ K 0),(34,i4_ k),(36,.bool true),(35,.bool true),(44,.bool r)]) ?_ λS A=>?_
   .cases o
    .have C:=e
     refine Zz 5 ?_;refine U_ (eq_ _ (.mk J H lr I E F G) (yab_ _) B.right) rfl (.refl _) (λv _ h=>⟨h.1.2.1,trivial⟩) rfl λa0 Q=>Zz 3 ?_
     exact met (zm (jof C Q))
    have C:=e;refine Zz 6 ?_;exact met ⟨rfl,rfl,rfl,rfl,rfl,rfl,rfl,rfl,rfl,rfl,rfl,rfl,rfl,rfl,rfl,rfl,rfl,rfl,rfl,rfl,rfl,rfl,rfl,rfl,rfl,rfl,rfl,rfl,rfl,rfl,rfl,rfl,rfl,rfl,rfl,(n_ rfl (jot C)),trivial⟩
   refine Zz 2 ?_;cases S
   .simp at A
    exact gI_
   simp at A
   exact fI_
  refine Zz 10 ?_;exact ex_
 refine Zz 10 ?_;exact ex_
def prE:Array MapEntry:=#[⟨.int .i64 1,.func (.func 348) #[] #[],0⟩,⟨.int .i64 2,.func (.func 349) #[] #[],1⟩,⟨.int .i64 3,.func (.func 350) #[] #[],2⟩,⟨.int .i64 4,.func (.func 351) #[] #[],3⟩,⟨.int .i64 5,.func (.func 352) #[] #[],4⟩,⟨.int .i64 6,.func (.func 353) #[] #[],5⟩,⟨.int .i64 7,.func (.func 354) #[] #[],6⟩]
def prF (m:Nat):Fct:=cv_ m (.map prE 7)
def prV (m n:Nat):Value:=.agg #[.map (some m),.map (some n)]
theorem elt39:Elt prog 25 9 1 16:=gn_ jq_ (z:=.string ⟨#[]⟩) zam_ rfl zaj_
theorem Aj_ {b n cap:Nat} (xs:List Str) (sep:Str) (E:xs.length=n) {d:Array Value} {T:TypeId} {fz:Nat×Nat} (F:∀ (j:Nat) (x:Str),xs[j]? = some x->d[j]? = some (str x)) (k:xs.length<=cap) (G:xs.length<=1000000) (h:(Lib.join xs sep).length<=140737488355328) :
    Tri prog 369 #[.slice (some ⟨b,0,none⟩) n cap,str sep] [(b,.cells d T fz)] [cy_] (λ_:Unit=>str (Lib.join xs sep)) (λ_=>[(b,.cells d T fz)]) (λ_=>[]):=by
  subst E;refine dT_ (callable func369 rfl rfl) λv o C=>?_;have u:=(o.own _ yaq_).1;have e:(xs.map λx=>(⟨x.toArray⟩:ByteArray)).map (·.data.toList)=xs:=by simp[ydg_,Function.comp_def]
  have:=Tryz.strings_Join b 0 cap (xs.map λx=>⟨x.toArray⟩) ⟨sep.toArray⟩ v.w (λj x A=>by
    simp only[yaD_,ycA_]at A;obtain⟨y,B,rfl⟩:=A;simp only[World.cell?,u,ybP_];exact F j y B) (yaC_.1 u).1 zaC_ zaM_ (by rw[e];exact h)
  rw[e,yaB_]at this;exact this.mono λ_ _ q=>⟨q.1,q.2,.inl C.1.2.2.2.1⟩
theorem Ao_ (n:Int) (o:-9223372036854775808<=n) (d:n<=9223372036854775807):Tri prog 381 #[i4_ n] [] [cy_] (λ_:Unit=>str (Lib.itoa n)) (λ_=>[]) (λ_=>[]) :=
  dT_ (callable func381 rfl rfl) λv _ h=>(Tryz.strconv_Itoa n o d v.w (xX_ h.1.2.2.2)).mono (by
    rintro e w' ⟨rfl,k,os,rfl⟩;exact⟨rfl,vL_ _ _ _,.inr (ydd_ _ _)⟩)
theorem vW_ {b n:Nat} (xs:List Str) (k:xs.length=n) {d:Array Value} {T:TypeId} {fz:Nat×Nat} (o:∀ (j:Nat) (x:Str),xs[j]? = some x->d[j]? = some (str x)) (u:xs.length<=1000000) (e:(Lib.join xs [32]).length<=140737488355328) :
    Tri prog 380 #[.slice (some ⟨b,0,none⟩) n n] [(b,.cells d T fz)] [cy_] (λ_:Unit=>str (Lib.join xs [32])) (λ_=>[(b,.cells d T fz)]) (λ_=>[]):=by
  refine l_ func380 rfl rfl ntmps380 rfl λy=>?_;refine Zz 8 ?_;refine d_ (Aj_ xs [32] k o (Nat.le_of_eq k) u e) rfl (.refl _) (λv _ h=>h) rfl λ_=>Zz 4 ?_
  exact W_ results380 () rfl (F:=[]) (.refl _) zt
theorem pr_top (c:Con) (m n:Nat) (d:c.kind=1):Tri prog 348 #[prV m n,c.val] [] [c.memF,prF m,cy_] (λ_:Unit=>str c.text) (λ_=>[]) (λ_=>[]):=by
  obtain⟨k,nm,lo,hi,ad,cap,ps⟩:=c;simp only[Con.kind]at d;refine l_ func348 rfl rfl ntmps348 rfl λe=>?_;refine Zz 2 ?_;refine Q_ rfl rfl λh=>Q_ rfl rfl λo=>Zz 9 ?_
  exact W_ results348 () (cN_ rfl zbj_) (.refl _) zt
theorem xW_ (c:Con) (m n:Nat) (d:c.kind=2):Tri prog 349 #[prV m n,c.val] [] [c.memF,prF m,cy_] (λ_:Unit=>str c.text) (λ_=>[]) (λ_=>[]):=by
  obtain⟨k,nm,lo,hi,ad,cap,ps⟩:=c;simp only[Con.kind]at d;refine l_ func349 rfl rfl ntmps349 rfl λe=>?_;refine Zz 2 ?_;refine Q_ rfl rfl λh=>Q_ rfl rfl λo=>Zz 9 ?_
  exact W_ results349 () (cN_ rfl zbj_) (.refl _) zt
theorem zE_ (c:Con) (m n:Nat) (d:c.kind=3):Tri prog 350 #[prV m n,c.val] [] [c.memF,prF m,cy_] (λ_:Unit=>str c.text) (λ_=>[]) (λ_=>[]):=by
  obtain⟨k,nm,lo,hi,ad,cap,ps⟩:=c;simp only[Con.kind]at d;refine l_ func350 rfl rfl ntmps350 rfl λe=>?_;refine Zz 2 ?_;refine Q_ rfl rfl λh=>Q_ rfl rfl λo=>Zz 11 ?_
  exact W_ results350 () (cN_ rfl zbj_) (.refl _) zt
theorem vg_ (c:Con) (m n:Nat) (d:c.kind=4) (hl:c.name.length<=24):Tri prog 351 #[prV m n,c.val] [] [c.memF,prF m,cy_] (λ_:Unit=>str c.text) (λ_=>[]) (λ_=>[]):=by
  obtain⟨k,nm,lo,hi,ad,cap,ps⟩:=c;simp only[Con.kind]at d;refine l_ func351 rfl rfl ntmps351 rfl λe=>?_;simp only[Con.name]at hl;refine Zz 2 ?_;refine Q_ rfl rfl λo=>Q_ rfl rfl λh=>Zz 7 ?_
  refine c_ (bn_ rfl rfl (by simp[Con.name];omega)) rfl ?_;refine c_ (bn_ rfl rfl (by simp[Con.name];omega)) rfl ?_;refine Zz 4 ?_;exact W_ results351 () (cN_ rfl zbj_) (.refl _) zt
theorem oJ_ {G:Prop} (h:G:=by
 exact W_ results379 () (cN_ rfl (by unfold Con.operand;first|exact (yax_ zar_).symm|exact (yam_ zar_).symm)) (.refl _) zt):G:=h
theorem vf_ (c:Con) (m n:Nat) (hl:c.text.length<=100000) (e:Tri prog 307 #[prV m n,c.val] [] [c.memF,prF m,cy_] (λ_:Unit=>str c.text) (λ_=>[]) (λ_=>[])):Tri prog 379 #[prV m n,c.val] [] [c.memF,prF m,cy_] (λ_:Unit=>str c.operand) (λ_=>[]) (λ_=>[]):=by
 obtain⟨k,nm,lo,hi,ad,cap,ps⟩:=c;refine l_ func379 rfl rfl ntmps379 rfl λo=>?_;refine Zz 2 ?_;refine Q_ rfl rfl λx=>Q_ rfl rfl λu=>Zj 8 (λd=>?_) λd=>?_
 .refine Zz 9 ?_
  refine d_ (e) rfl (.refl _) (λv _ h=>h) rfl λ_=>Zz 4 ?_
  exact oJ_
 refine Zz 7 ?_;refine d_ (e) rfl (.refl _) (λv _ h=>h) rfl λ_=>?_;refine c_ (bn_ rfl rfl zal_) rfl ?_;refine c_ (bn_ rfl rfl zal_) rfl ?_;refine Zz 4 ?_;exact oJ_
theorem gP_ (c:Con) (m n:Nat) {g i:Nat} (e:ek_ prog 3 (i4_ c.kind) prE.toList (some (i,.func (.func g) #[] #[]))) (x:Tri prog g #[prV m n,c.val] [] [c.memF,prF m,cy_] (λ_:Unit=>str c.text) (λ_=>[]) (λ_=>[])):Tri prog 307 #[prV m n,c.val] [] [c.memF,prF m,cy_] (λ_:Unit=>str c.text) (λ_=>[]) (λ_=>[]):=by
  obtain⟨k,nm,lo,hi,ad,cap,ps⟩:=c;refine l_ func307 rfl rfl ntmps307 rfl λd=>?_;refine Zz 2 ?_;refine Q_ rfl rfl λu=>Q_ rfl rfl λo=>Zz 9 ?_
  refine c_ (fL_ dV_ rfl rfl (λv _ h=>h.2.1.2) (bR_ F_) e) rfl (Zz 2 ?_);refine bb_ (x) rfl rfl (.refl _) zf rfl λ_=>Zz 4 ?_
  exact W_ results307 () rfl (.refl _) zt
theorem Bw_:iJ_ prog 347 [(0,1),(1,1)] [.map none,.map none]:=⟨_,zeroValue347,runUnderlying347,λw=>by simp[sizeOf344,sizeOf345]⟩
theorem sd_:Tri prog 306 #[] [] [] (λq:Nat×Nat=>prV q.1 q.2) (λ_=>[]) (λq=>[prF q.1]):=by
  refine l_ func306 rfl rfl ntmps306 rfl λo=>?_;refine Zz 2 ?_;refine K_ zeroValue347 rfl λu=>Zz 4 ?_
  refine dm_ rfl λh=>bG_ 0 (.inl rfl) dV_ rfl rfl rfl rfl (bR_ F_) (bu_ F_ rfl) (bG_ 0 (.inl rfl) dV_ rfl rfl rfl rfl (bR_ F_) (bu_ F_ rfl) (bG_ 0 (.inl rfl) dV_ rfl rfl rfl rfl (bR_ F_) (bu_ F_ rfl) (bG_ 0 (.inl rfl) dV_ rfl rfl rfl rfl (bR_ F_) (bu_ F_ rfl) (bG_ 0 (.inl rfl) dV_ rfl rfl rfl rfl (bR_ F_) (bu_ F_ rfl) (bG_ 0 (.inl rfl) dV_ rfl rfl rfl rfl (bR_ F_) (bu_ F_ rfl) (bG_ 0 (.inl rfl) dV_ rfl rfl rfl rfl (bR_ F_) (bu_ F_ rfl) (Zz 1 ?_)))))))
  refine dm_ rfl λk=>bG_ 0 (.inl rfl) dh_ rfl rfl rfl rfl (bR_ F_) (bu_ F_ rfl) (bG_ 0 (.inl rfl) dh_ rfl rfl rfl rfl (bR_ F_) (bu_ F_ rfl) (bG_ 0 (.inl rfl) dh_ rfl rfl rfl rfl (bR_ F_) (bu_ F_ rfl) (bG_ 0 (.inl rfl) dh_ rfl rfl rfl rfl (bR_ F_) (bu_ F_ rfl) (bG_ 0 (.inl rfl) dh_ rfl rfl rfl rfl (bR_ F_) (bu_ F_ rfl) (bG_ 0 (.inl rfl) dh_ rfl rfl rfl rfl (bR_ F_) (bu_ F_ rfl) (bG_ 0 (.inl rfl) dh_ rfl rfl rfl rfl (bR_ F_) (bu_ F_ rfl) (bG_ 0 (.inl rfl) dh_ rfl rfl rfl rfl (bR_ F_) (bu_ F_ rfl) (bG_ 0 (.inl rfl) dh_ rfl rfl rfl rfl (bR_ F_) (bu_ F_ rfl) (Zz 1 ?_)))))))))
  refine c_ (x_ Bw_ rfl rfl) rfl (o_ 2 sizeOf347 rfl rfl rfl rfl rfl rfl (Zz 3 ?_));refine jF_ 1 rfl ?_;exact cs_ (h,k) (λa v d e=>db_ (us:=[_,_]) 1 results306 isAgg347 sizeOf347 rfl rfl rfl a v d e) (.refl _) zf
theorem pr_and (c:Con) (m n:Nat) (x:c.kind=5) (I:2<=c.parts.length/\c.parts.length<=8) (hl:(Lib.join (c.parts.map Con.operand) [32,97,110,100,32]).length<=140737488355328) (o:∀ p∈c.parts,Tri prog 379 #[prV m n,p.val] [] [p.memF,prF m,cy_] (λ_:Unit=>str p.operand) (λ_=>[]) (λ_=>[])):Tri prog 352 #[prV m n,c.val] [] [c.memF,prF m,cy_] (λ_:Unit=>str c.text) (λ_=>[]) (λ_=>[]):=by
 obtain⟨k,nm,lo,hi,ad,cap,ps⟩:=c;simp only[Con.kind,Con.parts]at x I hl o;refine l_ func352 rfl rfl ntmps352 rfl λM=>?_;refine Zz 2 ?_;refine Q_ rfl rfl λd=>Q_ rfl rfl λK=>Zz 18 ?_
 refine bc_ [(2,zp_ d 0),(5,.slice none 0 0),(9,.slice ad ps.length cap),(10,i4_ ps.length),(11,i4_ ((0:Nat):Int))] zl ?_;refine bs_ (ι:={q:Nat×Value×Hp // q.1<=ps.length/\av_ 9 1 q.2.1 q.1 ((ps.take q.1).flatMap λp=>V_ p.operand) q.2.2}) (λq=>[(2,zp_ d 0),(5,q.1.2.1),(9,.slice ad ps.length cap),(10,i4_ ps.length),(11,i4_ q.1.1)]) (λq=>_::_::q.1.2.2) (λ_=>_) (λq=>ps.length - q.1.1) ⟨(0,.slice none 0 0,[]),by simp,av_.nil _ _⟩ ?_;rintro ⟨⟨i,sv,Hr⟩,H⟩;dsimp only at H;refine bc_ [(2,zp_ d 0),(5,sv),(9,.slice ad ps.length cap),(10,i4_ ps.length),(11,i4_ i)] zl ?_;refine Zj 2 (λE=>?_) λE=>?_
 .obtain rfl:i=ps.length:=by omega
  obtain⟨g,cp,cur,rfl,rfl,J,O,P,A⟩:=H.2.some zaa_;rw[ybE_]at A;refine Zz 9 ?_;refine d_ (Aj_ (ps.map Con.operand) [32,97,110,100,32] zak_ (qF_ (n:=ps.length) (by rw[A,yda_])) (by simpa using J) zaC_ hl) rfl (@List.perm_append_comm _ [_,_] _) zf rfl λ_=>?_;refine Zz 4 ?_;exact W_ results352 () (cN_ rfl (by rw[Con.text_eq];simp[Con.kind,Con.parts,x])) (.refl _) zt
 have e:i<ps.length:=by omega
 obtain⟨p,G⟩:∃ p,ps[i]? = some p:=⟨_,yaa_ e⟩;have y:p∈ps:=yad_ G;refine Zz 10 ?_;refine c_ (J_ z_ i_ rfl rfl (λv _ h=>az_ (n:=5) Con.cells_len zaj_ (((Con.mem_iff (.mk k nm lo hi ad cap ps) v).1 h.1).1) G) zaa_ zan_) rfl ?_;refine c_ (ax_ (ad:=ad) (us:=p.cells) H_ i_ rfl (λv _ h=>((Con.mem_iff (.mk k nm lo hi ad cap ps) v).1 h.1).1) (Con.cells_len _) (t_ Con.cells_len G)) rfl (K_ ay_ rfl λQ=>fR_ 0 i_ rfl rfl rfl rfl (Zz 5 ?_));refine c_ (dD_ 0 H_ i_ rfl rfl) rfl (d_ (o p y) rfl (.refl _) (λv _ h=>⟨Con.mem_part (c:=(.mk k nm lo hi ad cap ps)) h.1 y,h.2.1,h.2.2.1,trivial⟩) rfl λ_=>p_ m_ B_ ak_ rfl rfl rfl rfl rfl rfl λL=>?_);refine am_ elt39 H.2 rfl rfl (@List.perm_append_comm _ [_,_,_,_] _) rfl (aO_ 0 rfl) (dn_ rfl) zay_ zaa_ rfl λu C B=>?_;refine s_ (@List.perm_append_comm _ _ [_,_,_,_]) (Zz 8 ?_);exact w_ ⟨(i+1,u,C),e,by rw[Con.take_snoc G,yan_];exact B⟩ zaC_ zl (F:=[_,_]) (@List.perm_append_comm _ [_,_] _) zh
theorem BX_ (c:Con) (m n:Nat) (u:c.kind=6) (o:c.parts.length=1) (hl:c.text.length<=140737488355328) (e:∀ p∈c.parts,Tri prog 379 #[prV m n,p.val] [] [p.memF,prF m,cy_] (λ_:Unit=>str p.operand) (λ_=>[]) (λ_=>[])):Tri prog 353 #[prV m n,c.val] [] [c.memF,prF m,cy_] (λ_:Unit=>str c.text) (λ_=>[]) (λ_=>[]):=by
  obtain⟨k,nm,lo,hi,ad,cap,ps⟩:=c;simp only[Con.kind,Con.parts]at u o e;obtain⟨p,rfl⟩:=ybb_.1 o;have x:[p][0]? = some p:=rfl;have d:p∈[p]:=yal_.2 rfl;have y:(Con.mk k nm lo hi ad cap [p]).text=Lib.join [[115,111,109,101],nm,p.operand] [32]:=by rw[Con.text_eq];simp[Con.kind,Con.parts,Con.name,u]
  rw[y]at hl;refine l_ func353 rfl rfl ntmps353 rfl λA=>?_;refine Zz 2 ?_;refine Q_ rfl rfl λC=>Q_ rfl rfl λB=>Zz 5 ?_
  refine C_ 4 [0,1,2,3,4,5,6] zk zs (Zz 5 ?_);refine G_ rfl (J_ z_ i_ rfl rfl (λv _ h=>az_ (n:=5) Con.cells_len zaj_ (((Con.mem_iff (.mk k nm lo hi ad cap [p]) v).1 h.1).1) x) zaa_ zan_) rfl ?_;refine G_ rfl (ax_ (ad:=ad) (us:=p.cells) H_ i_ rfl (λv _ h=>((Con.mem_iff (.mk k nm lo hi ad cap [p]) v).1 h.1).1) (Con.cells_len _) (t_ Con.cells_len x)) rfl (bd_ (j_ 7 rfl zk (d_ (e p d) rfl (.refl _) (λv _ h=>⟨Con.mem_part (c:=.mk k nm lo hi ad cap [p]) h.1 d,h.2.1,h.2.2.1,trivial⟩) rfl λ_=>Zz 3 ?_)));refine j_ 8 rfl zk (p_ m_ B_ ak_ rfl rfl rfl rfl rfl rfl λE=>Zz 3 ?_);refine j_ 9 rfl zk (d_ (vW_ [[115,111,109,101],nm,p.operand] rfl (wc_ _) zak_ hl) rfl (.refl _) zf rfl λ_=>Zz 3 ?_);refine C_ 0 [10] zk zs (Zz 5 ?_);exact W_ results353 () (cN_ rfl y.symm) (.refl _) zt
theorem BW_ (c:Con) (m n:Nat) (d:c.kind=7) (u:c.ok) (hl:c.text.length<=140737488355328):Tri prog 354 #[prV m n,c.val] [] [c.memF,prF m,cy_] (λ_:Unit=>str c.text) (λ_=>[]) (λ_=>[]):=by
  obtain⟨k,nm,lo,hi,ad,cap,ps⟩:=c;simp only[Con.kind]at d;obtain⟨_,_,_,v,h,o,e,_⟩:=u;have x:(Con.mk k nm lo hi ad cap ps).text=Lib.join [nm,[105,110],Lib.itoa lo,[116,111],Lib.itoa hi] [32]:=by rw[Con.text_eq];simp[Con.kind,Con.name,Con.lo,Con.hi,d]
  rw[x]at hl;refine l_ func354 rfl rfl ntmps354 rfl λy=>?_;refine Zz 2 ?_;refine Q_ rfl rfl λB=>Q_ rfl rfl λA=>Zz 5 ?_
  refine C_ 5 [0,1,2,3,5,6] zk zs (Zz 7 ?_);refine j_ 4 rfl zk (d_ (Ao_ _ v h) rfl (.refl _) zf rfl λ_=>Zz 3 ?_);refine j_ 7 rfl zk (d_ (Ao_ _ o e) rfl (.refl _) zf rfl λ_=>Zz 3 ?_);refine j_ 8 rfl zk (p_ m_ B_ ak_ rfl rfl rfl rfl rfl rfl λC=>Zz 3 ?_);refine j_ 9 rfl zk (d_ (vW_ [nm,[105,110],Lib.itoa lo,[116,111],Lib.itoa hi] rfl (wc_ _) zak_ hl) rfl (.refl _) zf rfl λ_=>Zz 3 ?_);refine C_ 0 [10] zk zs (Zz 5 ?_);exact W_ results354 () (cN_ rfl x.symm) (.refl _) zt
theorem BV_ (m n:Nat):∀ (d:Nat) (c:Con),c.sz<=d->c.sz<=64->c.ok->c.fine->Tri prog 307 #[prV m n,c.val] [] [c.memF,prF m,cy_] (λ_:Unit=>str c.text) (λ_=>[]) (λ_=>[]):=by
 intro d
 induction d with
 | zero=>grind[Con.sz_pos]
 | succ d ih =>
   intro c B A h v;have F:=Con.fields v;have hl:=Con.text_len _ c (yab_ _) h v
   have k:∀ p∈c.parts,Tri prog 379 #[prV m n,p.val] [] [p.memF,prF m,cy_] (λ_:Unit=>str p.operand) (λ_=>[]) (λ_=>[]):=λp u=>by
     have E:=Con.sz_part u;have hl:=Con.text_len _ p (yab_ _) (Con.ok_part h u) (Con.fine_part v u)
     grind[vf_,Con.ok_part,Con.fine_part]
   have x:=F.k1;have y:=F.k7;have hm:=F.mo;have o:=F.le;have e:c.kind=1\/c.kind=2\/c.kind=3\/c.kind=4\/c.kind=5\/c.kind=6\/c.kind=7:=by omega
   rcases e with e|e|e|e|e|e|e
   . exact gP_ c m n zbg_ (pr_top c m n e)
   . exact gP_ c m n zbg_ (xW_ c m n e)
   . exact gP_ c m n zbg_ (zE_ c m n e)
   . exact gP_ c m n zbg_ (vg_ c m n e F.nm)
   . have C:c.text=Lib.join (c.parts.map Con.operand) [32,97,110,100,32]:=by grind[Con.text_eq]
     rw[e]at hm o;simp[nd,dC_]at hm o
     exact gP_ c m n zbg_ (pr_and c m n e ⟨by omega,by omega⟩ zap_ k)
   . rw[e]at hm o
     simp[nd,dC_]at hm o
     exact gP_ c m n zbg_ (BX_ c m n e zaa_ zaa_ k)
   . exact gP_ c m n zbg_ (BW_ c m n e h zaa_)
theorem tC_ (c:Con) (h:c.ok):Tri prog 257 #[c.val] [] [c.memF,cy_] (λ_:Unit=>.tuple #[str c.textN,i4_ c.check]) (λ_=>[]) (λ_=>[]):=by
 obtain⟨k,nm,lo,hi,ad,cap,ps⟩:=c;refine l_ func257 rfl rfl ntmps257 rfl λu=>?_;refine Zz 2 ?_;refine Q_ rfl rfl λv=>Zz 8 ?_
 refine d_ (fE_ (.mk k nm lo hi ad cap ps) h) rfl (.refl _) zf rfl λ_=>Zj 6 (λd=>?_) λd=>?_
 .obtain⟨e,o⟩:=Con.check_zero d
  refine Zz 7 ?_;refine C_ 4 [1] zk zs (Zz 2 ?_);refine j_ 0 rfl zk (d_ (sd_) rfl (.refl _) zt rfl λq=>Zz 3 ?_);refine j_ 2 rfl zk (d_ (BV_ q.1 q.2 _ (.mk k nm lo hi ad cap ps) (yab_ _) o h e) rfl (.refl _) zf rfl λ_=>Zz 3 ?_);refine C_ 0 [3,4] zk zs (Zz 6 ?_);exact gN_ results257 () rfl rfl (by simp[Con.textN, *]<;>rfl) (.refl _) zt
 refine Zz 11 ?_;exact gN_ results257 () rfl rfl (by simp[Con.textN, *]<;>rfl) (.refl _) zt
theorem se_ (c:Con) (d:c.ok):Tri prog 179 #[c.val] [] [c.memF,cy_] (λ_:Unit=>str c.textN) (λ_=>[]) (λ_=>[]):=by
  obtain⟨k,nm,lo,hi,ad,cap,ps⟩:=c;refine l_ func179 rfl rfl ntmps179 rfl λe=>?_;refine Zz 2 ?_;refine Q_ rfl rfl λo=>Zz 6 ?_
  refine d_ (tC_ (.mk k nm lo hi ad cap ps) d) rfl (.refl _) (λv _ h=>h) rfl λ_=>Zz 14 ?_
  exact W_ results179 () rfl (.refl _) zt
theorem oI_ {G:Prop} (h:G:=by
 exact W_ results90 () (cN_ rfl (by unfold Con.operandN;simp only[Con.kind,Con.name]at *;simp[*])) (.refl _) zt):G:=h
theorem pz_ (c:Con) (d:c.ok):Tri prog 90 #[c.val] [] [c.memF,cy_] (λ_:Unit=>str c.operandN) (λ_=>[]) (λ_=>[]):=by
 obtain⟨k,nm,lo,hi,ad,cap,ps⟩:=c;refine l_ func90 rfl rfl ntmps90 rfl λo=>?_;refine Zz 2 ?_;refine Q_ rfl rfl λu=>Zj 8 (λe=>?_) λe=>?_
 .refine Zz 8 ?_
  refine d_ (se_ (.mk k nm lo hi ad cap ps) d) rfl (.refl _) (λv _ h=>h) rfl λ_=>Zz 4 ?_
  exact oI_
 refine Zz 6 ?_;refine d_ (se_ (.mk k nm lo hi ad cap ps) d) rfl (.refl _) (λv _ h=>h) rfl λ_=>?_;refine c_ (bn_ rfl rfl zaK_) rfl ?_;refine c_ (bn_ rfl rfl zaK_) rfl ?_;refine Zz 4 ?_;exact oI_
theorem dg_ (s:Str) (e:s.length<=140737488351232) :
    Fn0 prog 92 #[str s] (str ([123]++s++[125])):=by
  refine l_ func92 rfl rfl ntmps92 rfl λd=>?_;refine Zz 8 ?_;refine c_ (bn_ rfl rfl zaC_) rfl ?_;refine c_ (bn_ rfl rfl zaC_) rfl ?_;refine Zz 4 ?_;exact W_ results92 () rfl (.refl _) zt
theorem gH_ {G:Prop} (h:G:=by
 exact W_ results88 () (cN_ rfl (by unfold Con.atom;simp only[Con.kind,Con.name]at *;simp[*])) (.refl _) zt):G:=h
theorem cJ_ (c:Con) (d:c.ok):Tri prog 88 #[c.val] [] [c.memF,cy_] (λ_:Unit=>str c.atom) (λ_=>[]) (λ_=>[]):=by
 obtain⟨k,nm,lo,hi,ad,cap,ps⟩:=c;refine l_ func88 rfl rfl ntmps88 rfl λy=>?_;refine Zz 2 ?_;refine Q_ rfl rfl λA=>Zj 13 (λu=>?_) λu=>?_
 .refine Zj 6 (λx=>?_) λx=>?_
  .refine Zj 6 (λo=>?_) λo=>?_
   .refine Zj 6 (λe=>?_) λe=>?_
    .refine Zz 9 ?_
     refine d_ (se_ (.mk k nm lo hi ad cap ps) d) rfl (.refl _) (λv _ h=>h) rfl λ_=>?_;refine c_ (bn_ rfl rfl zaK_) rfl ?_;refine c_ (bn_ rfl rfl zaK_) rfl ?_;refine Zz 4 ?_;exact gH_
    refine Zz 8 ?_;refine d_ (dg_ nm (Con.ok_name d)) rfl (.refl _) zt rfl λ_=>Zz 4 ?_
    exact gH_
   refine Zz 12 ?_;exact gH_
  refine Zz 10 ?_;exact gH_
 refine Zz 10 ?_;exact gH_
theorem eqPc (p q:Pc) (w:World):(Op.equalIn 10000 80 p.val q.val).run prog w=.ok (decide (p=q)) w:=by
  have h:=run_equalIn_struct (P:=prog) w 9999 80 p.cells.toArray q.cells.toArray (by grind[Program.fieldsOf,underlying80]) Tryz.stoodInHeld80;refine h.trans ?_;rw[<-Pc.eqb_eq];simp only[Program.fieldsOf,jp_];exact es_ rfl aU_ rfl rfl (eqI F_ w) (es_ rfl aJ_ rfl rfl (eqS cW_ w) (es_ rfl aJ_ rfl rfl (eqS cW_ w) (es_ rfl aJ_ rfl rfl (eqS cW_ w) (es_ rfl aJ_ rfl rfl (eqS cW_ w) (es_ rfl aJ_ rfl rfl (eqS cW_ w) (es_ rfl aJ_ rfl rfl (eqS cW_ w) (es_ rfl aU_ rfl rfl (eqI F_ w) (es_ rfl aU_ rfl rfl (eqI F_ w) (es_ rfl aU_ rfl rfl (eqI F_ w) (wS_ w))))))))))
theorem Ai_ (p:Pc):kH_ prog 80 p.val:=λe w=>by
 have hi:∀ (n:Int) (w:World),(Instr.checkKey e (9998+1) 3 (.int .i64 n)).run prog w=.ok () w:=λn w=>MapKept.run_checkKey (d:=.int .i64) F_ (by simp[MapKept.IsKey]) e 9998
 have h:∀ (n:Str) (w:World),(Instr.checkKey e (9998+1) 9 (str n)).run prog w=.ok () w:=λn w=>MapKept.run_checkKey (d:=.string) cW_ (by simp[MapKept.IsKey,str]) e 9998
 refine ckF (n:=9999) jp_ λf k=>?_;simp only[yar_,yav_,ybg_]at k;rcases k with rfl|rfl|rfl|rfl|rfl|rfl|rfl|rfl|rfl|rfl
 .exact⟨rfl,aU_,_,rfl,hi _⟩
 .exact⟨rfl,aJ_,_,rfl,h _⟩
 .exact⟨rfl,aJ_,_,rfl,h _⟩
 .exact⟨rfl,aJ_,_,rfl,h _⟩
 .exact⟨rfl,aJ_,_,rfl,h _⟩
 .exact⟨rfl,aJ_,_,rfl,h _⟩
 .exact⟨rfl,aJ_,_,rfl,h _⟩
 .exact⟨rfl,aU_,_,rfl,hi _⟩
 .exact⟨rfl,aU_,_,rfl,hi _⟩
 exact⟨rfl,aU_,_,rfl,hi _⟩
theorem AG_:Elt prog 69 80 10 128:=gn_ underlying69 (z:=.agg (Pc.mk 0 [] [] [] [] [] [] 0 0 0).cells.toArray) zam_ rfl zaj_
theorem ct_:iJ_ prog 80 [(0,1),(1,1),(2,1),(3,1),(4,1),(5,1),(6,1),(7,1),(8,1),(9,1)] [i4_ 0,str [],str [],str [],str [],str [],str [],i4_ 0,i4_ 0,i4_ 0]:=⟨_,N_,runUnderlying80,λw=>by simp[af_,B_]⟩
theorem gz_:iJ_ prog 104 [(0,1),(1,1),(2,1),(3,1),(4,1),(5,1)] [i4_ 0,str [],str [],str [],i4_ 0,i4_ 0]:=⟨_,ad_,runUnderlying104,λw=>by simp[af_,B_]⟩
structure CS where
  sv:Value
  bm:Nat
  es:Array MapEntry
  clk:Nat
  Hr:Hp
def go_ (kb:Nat) (frm:Int) (q:CS):Hp:=(kb,.cells #[.int .i64 frm,q.sv,.map (some q.bm)] 142 (0,0))::(q.bm,.map q.es q.clk)::q.Hr
structure CInv (l:List Pc) (q:CS):Prop where
  row:av_ 80 10 q.sv l.length (l.flatMap Pc.cells) q.Hr
  keys:q.es.toList.map (·.key)=l.map Pc.val
  vals:∀ x∈q.es.toList,x.val=.bool true
theorem CInv.push {l:List Pc} {p:Pc} {sv e:Value} {bm clk:Nat} {es:Array MapEntry} {Hr d:Hp} (h:CInv l ⟨sv,bm,es,clk,Hr⟩) (o:av_ 80 10 e (l.length+1) (l.flatMap Pc.cells++p.cells) d):CInv (l++[p]) ⟨e,bm,es.push ⟨p.val,.bool true,clk⟩,clk+1,d⟩:=by
 refine⟨?_,?_,?_⟩
 .grind
 .have:=h.keys
  grind
 intro x k;simp only[ycg_,yaj_,yal_]at k;rcases k with k|rfl
 .exact h.vals x k
 rfl
theorem ea_ (p:Pc) {kb B:Nat} (frm:Int) (l:List Pc) (q:CS) (A:CInv l q) (O:l.length<=100000) :
    Tri prog 91 #[zp_ kb 0,.slice (some ⟨B,0,none⟩) 1 1] ((B,.cells p.cells.toArray 80 (0,0))::go_ kb frm q) [] (λ_:{K:CS // CInv (ins frm l p) K}=>.tuple #[]) (λK=>go_ kb frm K.1) (λ_=>[]):=by
  obtain⟨k,a,b,c,r,s,t,lo,hi,f⟩:=p;obtain⟨sv,bm,es,clk,Hr⟩:=q;refine l_ func91 rfl rfl ntmps91 rfl λQ=>?_;refine Zz 8 ?_;refine bc_ [(0,zp_ kb 0),(6,.slice (some ⟨B,0,none⟩) 1 1),(7,i4_ 1),(8,i4_ ((0:Nat):Int))] zl ?_;refine bs_ (ι:={x:Nat×CS // (x.1=0/\x.2=⟨sv,bm,es,clk,Hr⟩)\/(x.1=1/\CInv (ins frm l ⟨k,a,b,c,r,s,t,lo,hi,f⟩) x.2)}) (λx=>[(0,zp_ kb 0),(6,.slice (some ⟨B,0,none⟩) 1 1),(7,i4_ 1),(8,i4_ x.1.1)]) (λx=>_::go_ kb frm x.1.2) (λ_=>_) (λx=>1 - x.1.1) ⟨(0,⟨sv,bm,es,clk,Hr⟩),.inl ⟨rfl,rfl⟩⟩ ?_;rintro ⟨⟨i,L⟩,M⟩;dsimp only at M;rcases M with⟨rfl,rfl⟩|⟨rfl,P⟩
  . refine bc_ [(0,zp_ kb 0),(6,.slice (some ⟨B,0,none⟩) 1 1),(7,i4_ 1),(8,i4_ 0)] zl ?_;refine Zj 2 (λe=>?_) λe=>?_
    . exact absurd zaj_ e
    . refine Zz 10 ?_;refine c_ (ka_ u_ ab_ rfl rfl zaj_ zaj_) rfl (Zz 1 ?_);refine K_ N_ rfl λE=>o_ 0 ab_ rfl rfl rfl rfl rfl rfl (Zz 9 ?_)
      refine o_ 0 af_ rfl rfl rfl rfl rfl rfl (Zz 3 ?_)
      by_cases hm:(⟨k,a,b,c,r,s,t,lo,hi,frm⟩:Pc)∈l
      . obtain⟨j,I⟩:=(iw_ jp_ (λp q w=>eqPc p q w) (⟨k,a,b,c,r,s,t,lo,hi,frm⟩:Pc) l es.toList A.keys).2 hm A.vals;refine Zz 1 ?_;refine C_ 0 [0,1,2,3,4,5,6] zk zs (Zz 5 ?_);refine G_ rfl (fL_ runUnderlying140 rfl rfl (λv h _=>(h.own _ (yad_ (i:=3) rfl)).1) (Ai_ (⟨k,a,b,c,r,s,t,lo,hi,frm⟩:Pc)) I) rfl (G_ rfl (aI_ rfl) rfl (Zz 11 ?_));exact w_ ⟨(1,⟨sv,bm,es,clk,Hr⟩),.inr ⟨rfl,by simp only[ins,yax_ hm];exact A⟩⟩ ydi_ zl (F:=[_]) (@List.perm_append_comm _ [_] _) zh
      . have I:=(iw_ jp_ (λp q w=>eqPc p q w) (⟨k,a,b,c,r,s,t,lo,hi,frm⟩:Pc) l es.toList A.keys).1 hm;refine Zz 1 ?_;refine C_ 0 [0,1,2,3,4,5,6] zk zs (Zz 5 ?_);refine G_ rfl (gx_ runUnderlying140 hY_ rfl rfl (λv h _=>(h.own _ (yad_ (i:=3) rfl)).1) (Ai_ (⟨k,a,b,c,r,s,t,lo,hi,frm⟩:Pc)) I) rfl (G_ rfl (aI_ rfl) rfl (Zz 5 ?_));refine aW_ [(E,.cells #[i4_ k,str a,str b,str c,str r,str s,str t,i4_ lo,i4_ hi,i4_ frm] 80 (0,0)),(B,.cells #[i4_ k,str a,str b,str c,str r,str s,str t,i4_ lo,i4_ hi,i4_ f] 80 (0,0)),(kb,.cells #[i4_ frm,sv,.map (some bm)] 142 (0,0))] zk ?_;refine C_ 1 [0,1,2,3,4] zk (λ_ a b=>⟨Vw.sat.sub a,b⟩) (Zz 6 ?_);refine j_ 5 rfl zk (bG_ 3 (.inr rfl) runUnderlying140 rfl rfl rfl rfl (Ai_ (⟨k,a,b,c,r,s,t,lo,hi,frm⟩:Pc)) I (Zz 2 ?_));refine y_ (λ_ a b=>⟨Vw.sat.sub a,b⟩) (Zz 2 ?_);refine aW_ [(E,.cells #[i4_ k,str a,str b,str c,str r,str s,str t,i4_ lo,i4_ hi,i4_ frm] 80 (0,0))] zk ?_;refine C_ 6 [0,1,2,3,5] zk (λ_ a b=>⟨Vw.sat.sub a,b⟩) (Zz 6 ?_);refine bx_ 4 6 rfl rfl zk ?_ ?_
        . refine Zz 3 ?_;refine y_ (λ_ a b=>⟨Vw.sat.sub a,b⟩) (j_ 6 rfl zk (p_ u_ ab_ N_ rfl rfl rfl rfl rfl rfl λJ=>Zz 2 ?_));refine y_ (λ_ a b=>⟨Vw.sat.sub a.tail,b⟩) (j_ 7 rfl zk (am_ (news:=Pc.cells (⟨k,a,b,c,r,s,t,lo,hi,frm⟩:Pc)) AG_ A.row rfl rfl (@List.perm_append_comm _ [_,_,_,_,_] _) rfl (aO_ 0 rfl) (dn_ rfl) zay_ zaa_ rfl λC G d=>?_));refine s_ (@List.perm_append_comm _ _ [_,_,_,_,_]) ?_;obtain⟨u,y,o,rfl,rfl,H⟩:=d.some zaa_;refine Zz 2 ?_;refine y_ (λ_ a b=>⟨Vw.sat.sub a.tail,b⟩) (C_ 1 [8,9] zk (λ_ a b=>⟨Vw.sat.sub a.tail,b⟩) (Zz 3 ?_));refine j_ 10 rfl zk (o_ 3 aN_ rfl rfl rfl rfl rfl rfl (Zz 2 ?_));refine y_ (λ_ a b=>⟨Vw.sat.sub a.tail,b⟩) (Zz 7 ?_);exact w_ ⟨(1,⟨.slice (some ⟨u,0,none⟩) (l.length+1) y,bm,es.push ⟨Pc.val (⟨k,a,b,c,r,s,t,lo,hi,frm⟩:Pc),.bool true,clk⟩,clk+1,[(u,.cells o 80 (0,0))]⟩),.inr ⟨rfl,by simp only[ins,yam_ hm];exact A.push d⟩⟩ ydi_ zl (F:=[_,_]) (@List.perm_append_comm _ [_,_] _) zh
        . refine p_ u_ ab_ N_ rfl rfl rfl rfl rfl rfl λJ=>Zz 2 ?_
          refine y_ (λ_ a b=>⟨Vw.sat.sub a.tail,b⟩) (j_ 4 rfl zk (Zz 3 ?_));refine y_ (λ_ a b=>⟨Vw.sat.sub a.tail,b⟩) (j_ 7 rfl zk (am_ (news:=Pc.cells (⟨k,a,b,c,r,s,t,lo,hi,frm⟩:Pc)) AG_ A.row rfl rfl (@List.perm_append_comm _ [_,_,_,_,_] _) rfl (aO_ 0 rfl) (dn_ rfl) zay_ zaa_ rfl λC G d=>?_));refine s_ (@List.perm_append_comm _ _ [_,_,_,_,_]) ?_;obtain⟨u,y,o,rfl,rfl,H⟩:=d.some zaa_;refine Zz 2 ?_;refine y_ (λ_ a b=>⟨Vw.sat.sub a.tail,b⟩) (C_ 1 [8,9] zk (λ_ a b=>⟨Vw.sat.sub a.tail,b⟩) (Zz 3 ?_));refine j_ 10 rfl zk (o_ 3 aN_ rfl rfl rfl rfl rfl rfl (Zz 2 ?_));refine y_ (λ_ a b=>⟨Vw.sat.sub a.tail,b⟩) (Zz 7 ?_);exact w_ ⟨(1,⟨.slice (some ⟨u,0,none⟩) (l.length+1) y,bm,es.push ⟨Pc.val (⟨k,a,b,c,r,s,t,lo,hi,frm⟩:Pc),.bool true,clk⟩,clk+1,[(u,.cells o 80 (0,0))]⟩),.inr ⟨rfl,by simp only[ins,yam_ hm];exact A.push d⟩⟩ ydi_ zl (F:=[_,_]) (@List.perm_append_comm _ [_,_] _) zh
  . refine bc_ [(0,zp_ kb 0),(6,.slice (some ⟨B,0,none⟩) 1 1),(7,i4_ 1),(8,i4_ 1)] zl ?_;refine Zj 2 (λe=>?_) λe=>?_
    . refine Zz 6 ?_;exact end0 results91 ⟨L,P⟩ rfl (F:=[_]) (@List.perm_append_comm _ [_] _) zt
    . exact absurd e zaj_
theorem Bz_:iJ_ prog 142 [(0,1),(1,1),(2,1)] [i4_ 0,.slice none 0 0,.map none]:=⟨_,zeroValue142,runUnderlying142,λw=>by simp[af_,aN_,sizeOf140]⟩
theorem jH_ (frm:Int):Tri prog 85 #[i4_ frm] [] [] (λx:Nat×Nat=>zp_ x.1 0) (λx=>go_ x.1 frm ⟨.slice none 0 0,x.2,#[],0,[]⟩) (λ_=>[]):=by
  refine l_ func85 rfl rfl ntmps85 rfl λh=>?_;refine Zz 8 ?_;refine dm_ rfl λe=>c_ (x_ Bz_ rfl rfl) rfl (Q_ rfl rfl λd=>Zz 4 ?_)
  exact W_ results85 (d,e) rfl (F:=[]) (.refl _) zt
def kF (b kb:Nat):Fct:=cv_ b (.cells [zp_ kb 0].toArray 130 (0,0))
def lFn (b bk:Nat):Value:=.func (.func 177) #[] #[zp_ b 0,zp_ bk 0]
def lF (b bk:Nat):Fct:=cv_ b (.cells [lFn b bk].toArray 132 (0,0))
def rFn (b bk:Nat):Value:=.func (.func 178) #[] #[zp_ bk 0,zp_ b 0]
def rcF (b bk:Nat):Fct:=cv_ b (.cells [rFn b bk].toArray 132 (0,0))
theorem wf_ (kb:Nat):Tri prog 86 #[zp_ kb 0] [] [] (λx:Nat×Nat×Nat=>.tuple #[lFn x.2.1 x.1,rFn x.2.2 x.1]) (λ_=>[]) (λx=>[kF x.1 kb,lF x.2.1 x.1,rcF x.2.2 x.1]):=by
  refine l_ func86 rfl rfl ntmps86 rfl λu=>?_;refine Zz 2 ?_;refine Q_ rfl rfl λd=>K_ zeroValue132 rfl λe=>K_ zeroValue132 rfl λk=>Zz 4 ?_
  refine c_ (ft_ rfl rfl) rfl (o_ 1 sizeOf132 rfl rfl rfl rfl rfl rfl (Zz 4 ?_));refine c_ (ft_ rfl rfl) rfl (o_ 0 sizeOf132 rfl rfl rfl rfl rfl rfl (Zz 4 ?_));refine C_ 2 [0,1] zk zs (Zz 3 ?_);refine j_ 2 rfl zk (o_ 1 sizeOf132 rfl rfl rfl rfl rfl rfl (Zz 3 ?_));refine j_ 3 rfl zk (o_ 0 sizeOf132 rfl rfl rfl rfl rfl rfl (Zz 6 ?_));refine jF_ 0 rfl ?_;refine jF_ 0 rfl ?_;refine jF_ 0 rfl ?_;exact retG (d,e,k) (λa v o y h=>BK_ results86 lp_ lp_ o rfl rfl (py_ (cs:=[lFn e d]) 0 h.2.1 rfl) (py_ (cs:=[rFn k d]) 0 h.2.2.1 rfl)) (F:=[]) (.refl _) zf
theorem Con.mem_tail {c:Con} (d:c.ok) {v:Vw} (h:c.mem v):bW_ v (sad c.ad c.cap 1 5) ((c.parts.drop 1).flatMap Con.cells):=by
  have:=((Con.mem_iff c v).1 h).1.slice Con.cells_len (Con.ok_len d).1 1 c.parts.length;rwa [yac_ zak_]at this
theorem Con.drop_at {ps:List Con} {p:Con} {i:Nat} (d:ps[i]? = some p):ps.drop i=p::ps.drop (i+1):=by
  have hi:=(yaf_.1 d).1;rw[yaa_ hi]at d;simp only[yai_]at d;subst d;exact yaP_ hi
theorem Con.szs_append:∀ (xs ys:List Con),Con.sz.szs (xs++ys)=Con.sz.szs xs+Con.sz.szs ys
  | [],ys=>by simp[Con.sz.szs]
  | x::xs,ys=>by simp only[yaL_,Con.sz.szs,Con.szs_append xs ys];omega
theorem Con.sz_at {ps:List Con} {p:Con} {i:Nat} (d:ps[i]? = some p):Con.sz.szs (ps.take i)+p.sz<=Con.sz.szs ps:=by
  have e:Con.sz.szs ps=Con.sz.szs (ps.take i++(p::ps.drop (i+1))):=by rw[<-Con.drop_at d,yaQ_]
  rw[e,Con.szs_append];simp only[Con.sz.szs];omega
theorem Con.lefts_len (frm:Int) (ps:List Con) (i:Nat) (l:List Pc):(Con.leftP.lefts frm (ps.take i) l).length+(ps.take i).length<=l.length+2*Con.sz.szs (ps.take i):=by
  generalize ps.take i=qs
  induction qs generalizing l with
  | nil=>simp[Con.leftP.lefts]
  | cons p qs ih =>
    have d:=Con.leftP_len frm _ p (yab_ _) l;have e:=ih (p.leftP frm l);simp only[Con.leftP.lefts,Con.sz.szs,yap_];omega
theorem Con.rights_len (frm:Int) (a:Str) (ps:List Con) (i:Nat) (l:List Pc):(Con.rightP.rights frm a (ps.take i) l).length<=l.length+2*Con.sz.szs (ps.take i):=by
  generalize ps.take i=qs
  induction qs generalizing l with
  | nil=>simp[Con.rightP.rights]
  | cons p qs ih =>
    have d:=cX_ frm l ⟨1,a,[],p.atom,[],[],[],0,0,0⟩;have e:=Con.rightP_len frm _ p (yab_ _) (ins frm l ⟨1,a,[],p.atom,[],[],[],0,0,0⟩);have h:=ih (p.rightP frm (ins frm l ⟨1,a,[],p.atom,[],[],[],0,0,0⟩));simp only[Con.rightP.rights,Con.sz.szs];omega
theorem Con.headD_atom {ps:List Con} {p:Con} (d:ps[0]? = some p):(ps.map Con.atom).headD []=p.atom:=by cases ps<;>simp_all
theorem Con.leftP5 {c:Con} (h:c.kind=5) (frm:Int) (l:List Pc):c.leftP frm l=Con.andP frm c (c.parts.drop 1) 1 ((c.parts.map Con.atom).headD []) (Con.leftP.lefts frm c.parts l):=by rw[Con.leftP_eq,yax_ h]
theorem Con.leftP6 {c p:Con} (h:c.kind=6) (d:c.parts=[p]) (frm:Int) (l:List Pc):c.leftP frm l=ins frm (p.leftP frm l) ⟨4,p.atom,[],c.atom,c.name,[],[],0,0,0⟩:=by
  rw[Con.leftP_eq,yam_ zaa_,yax_ h,d];rfl
theorem Con.leftP7 {c:Con} (h:c.kind=7) (frm:Int) (l:List Pc):c.leftP frm l=ins frm l ⟨9,[],[],c.atom,c.name,[],[],c.lo,c.hi,0⟩:=by rw[Con.leftP_eq,yam_ zaa_,yam_ zaa_,yax_ h]
theorem Con.leftP0 {c:Con} (e:c.kind≠5) (h:c.kind≠6) (d:c.kind≠7) (frm:Int) (l:List Pc):c.leftP frm l=l:=by rw[Con.leftP_eq,yam_ e,yam_ h,yam_ d]
theorem Con.rightP5 {c:Con} (h:c.kind=5) (frm:Int) (l:List Pc):c.rightP frm l=Con.rightP.rights frm c.atom c.parts l:=by rw[Con.rightP_eq,yax_ h]
theorem Con.rightP6 {c p:Con} (h:c.kind=6) (d:c.parts=[p]) (frm:Int) (l:List Pc):c.rightP frm l=p.rightP frm (ins frm l ⟨3,c.atom,[],p.atom,c.name,[],[],0,0,0⟩):=by
  rw[Con.rightP_eq,yam_ zaa_,yax_ h,d];rfl
theorem Con.rightP7 {c:Con} (h:c.kind=7) (frm:Int) (l:List Pc):c.rightP frm l=ins frm l ⟨8,c.atom,[],[],c.name,[],[],c.lo,c.hi,0⟩:=by rw[Con.rightP_eq,yam_ zaa_,yam_ zaa_,yax_ h]
theorem Con.rightP0 {c:Con} (e:c.kind≠5) (h:c.kind≠6) (d:c.kind≠7) (frm:Int) (l:List Pc):c.rightP frm l=l:=by rw[Con.rightP_eq,yam_ e,yam_ h,yam_ d]
theorem ff_:iJ_ prog 28 [(0,1),(1,1),(2,1),(3,1),(4,1)] [i4_ 0,str [],i4_ 0,i4_ 0,.slice none 0 0]:=⟨_,ay_,ao_,λw=>by simp[af_,B_,dk_]⟩
theorem hy_ {kb bk bs:Nat} {frm:Int}:∀ (d:Nat) (c:Con),c.sz<=d->c.ok->c.fine->∀ (l:List Pc) (q:CS),CInv l q->l.length+2*c.sz<=100000->
    Tri prog 177 #[c.val,zp_ bs 0,zp_ bk 0] (go_ kb frm q) [c.memF,cy_,kF bk kb,lF bs bk] (λ_:{X:CS // CInv (c.leftP frm l) X}=>.tuple #[]) (λX=>go_ kb frm X.1) (λ_=>[]):=by
  intro d
  induction d with
  | zero=>intro c h;have:=c.sz_pos;omega
  | succ d ih =>
    intro c hd u Y l q W hl;have F:=Con.fields Y;have J:=F.le;have I:=F.mo;obtain⟨k,nm,lo,hi,ad,cap,ps⟩:=c;have R:=Con.ok_len u;have hsz:(Con.mk k nm lo hi ad cap ps).sz=1+Con.sz.szs ps:=by simp only[Con.sz]
    have hsl:=Con.szs_len ps;simp only[Con.parts,Con.cap,Con.kind]at R J I;refine l_ func177 rfl rfl ntmps177 rfl λv_1=>?_;refine Zz 2 ?_;refine Q_ rfl rfl λB=>Zj 11 (λM=>?_) λM=>?_
    . refine Zj 6 (λC=>?_) λC=>?_
      . refine Zj 6 (λH=>?_) λH=>?_
        . refine Zz 6 ?_;exact end0 results177 ⟨q,(by rw[Con.leftP0 (c:=(.mk k nm lo hi ad cap ps)) zar_ zar_ zar_];exact W)⟩ rfl (F:=[_]) (@List.perm_append_comm _ [_] _) zt
        . refine Zz 4 ?_;refine aW_ [(B,.cells (Con.cells (Con.mk k nm lo hi ad cap ps)).toArray 28 (0,0))] zk ?_;refine C_ 4 [0,1,2,3,4,5,6,7] zk (λ_ a b=>⟨Vw.sat.sub a,b⟩) (G_ rfl (cT_ (cs:=[zp_ kb 0]) sn_ rfl (λv _ h=>h.2.2.1) rfl) rfl (Zz 8 ?_));refine j_ 8 rfl zk (d_ (cJ_ (.mk k nm lo hi ad cap ps) u) rfl (.refl _) zf rfl λ_=>Zz 2 ?_);refine y_ (λ_ a b=>⟨Vw.sat.sub a,b⟩) (C_ 2 [9] zk (λ_ a b=>⟨Vw.sat.sub a,b⟩) (G_ rfl (x_ ct_ rfl rfl) rfl (bd_ (j_ 10 rfl zk (p_ u_ ab_ N_ rfl rfl rfl rfl rfl rfl λK=>Zz 2 ?_)))));refine y_ (λ_ a b=>⟨Vw.sat.sub a.tail,b⟩) (j_ 11 rfl zk (d_ (ea_ ⟨9,[],[],Con.atom (.mk k nm lo hi ad cap ps),nm,[],[],lo,hi,0⟩ frm l q W zaa_) rfl (.cons _ (@List.perm_append_comm _ [_] _)) zt rfl λx=>?_));obtain⟨E,y⟩:=x;refine s_ (@List.perm_append_comm _ _ [_]) (Zz 2 ?_);refine y_ (λ_ a b=>⟨Vw.sat.sub a,b⟩) (Zz 2 ?_);exact end0 results177 ⟨E,(by rw[Con.leftP7 (c:=(.mk k nm lo hi ad cap ps)) zar_];exact y)⟩ rfl (F:=[_]) (@List.perm_append_comm _ [_] _) zt
      . rw[C]at J I;simp[nd,dC_]at J I
        obtain⟨p,T⟩:=ybb_.1 (show ps.length=1 by omega);have A:ps[0]? = some p:=by rw[T];rfl
        have o:p∈ps:=yad_ A;refine Zz 5 ?_;refine aW_ [(B,.cells (Con.cells (Con.mk k nm lo hi ad cap ps)).toArray 28 (0,0))] zk ?_;refine C_ 1 [0,1,2,3,4] zk (λ_ a b=>⟨Vw.sat.sub a,b⟩) (G_ rfl (cT_ (cs:=[lFn bs bk]) lp_ rfl (λv _ h=>h.2.2.2.1) rfl) rfl (Zz 2 ?_));refine G_ rfl (J_ z_ i_ rfl rfl (λv _ h=>az_ (n:=5) Con.cells_len zaj_ (((Con.mem_iff (.mk k nm lo hi ad cap ps) v).1 h.1).1) A) zaa_ zan_) rfl ?_;refine G_ rfl (ax_ (ad:=ad) (us:=p.cells) H_ i_ rfl (λv _ h=>((Con.mem_iff (.mk k nm lo hi ad cap ps) v).1 h.1).1) (Con.cells_len _) (t_ Con.cells_len A)) rfl (bd_ (j_ 5 rfl zk (bb_ (ih p zbZ_ (Con.ok_part (c:=(.mk k nm lo hi ad cap ps)) u o) (Con.fine_part (c:=(.mk k nm lo hi ad cap ps)) Y o) l q W (by have:=Con.sz_at A;omega)) rfl rfl (@List.perm_append_comm _ [_] _) (λv _ h=>by exact⟨Con.mem_part (c:=(.mk k nm lo hi ad cap ps)) h.1 o,h.2⟩) rfl λx=>?_)));obtain⟨E,y⟩:=x;refine s_ (@List.perm_append_comm _ _ [_]) (Zz 2 ?_);refine y_ (λ_ a b=>⟨Vw.sat.sub a,b⟩) (Zz 2 ?_);refine aW_ [(B,.cells (Con.cells (Con.mk k nm lo hi ad cap ps)).toArray 28 (0,0))] zk ?_;refine C_ 5 [0,1,2,3,4,5,6,8] zk (λ_ a b=>⟨Vw.sat.sub a,b⟩) (G_ rfl (cT_ (cs:=[zp_ kb 0]) sn_ rfl (λv _ h=>h.2.2.1) rfl) rfl (Zz 4 ?_));refine G_ rfl (J_ z_ i_ rfl rfl (λv _ h=>az_ (n:=5) Con.cells_len zaj_ (((Con.mem_iff (.mk k nm lo hi ad cap ps) v).1 h.1).1) A) zaa_ zan_) rfl ?_;refine G_ rfl (ax_ (ad:=ad) (us:=p.cells) H_ i_ rfl (λv _ h=>((Con.mem_iff (.mk k nm lo hi ad cap ps) v).1 h.1).1) (Con.cells_len _) (t_ Con.cells_len A)) rfl (Zz 2 ?_);refine j_ 7 rfl zk (d_ (cJ_ p (Con.ok_part (c:=(.mk k nm lo hi ad cap ps)) u o)) rfl (.refl _) (λv _ h=>⟨Con.mem_part (c:=(.mk k nm lo hi ad cap ps)) h.1 o,h.2.1,trivial⟩) rfl λ_=>Zz 2 ?_);refine y_ (λ_ a b=>⟨Vw.sat.sub a,b⟩) (j_ 9 rfl zk (d_ (cJ_ (.mk k nm lo hi ad cap ps) u) rfl (.refl _) zf rfl λ_=>Zz 2 ?_));refine y_ (λ_ a b=>⟨Vw.sat.sub a,b⟩) (C_ 2 [10] zk (λ_ a b=>⟨Vw.sat.sub a,b⟩) (G_ rfl (x_ ct_ rfl rfl) rfl (bd_ (j_ 11 rfl zk (p_ u_ ab_ N_ rfl rfl rfl rfl rfl rfl λK=>Zz 2 ?_)))));refine y_ (λ_ a b=>⟨Vw.sat.sub a.tail,b⟩) (j_ 12 rfl zk (d_ (ea_ ⟨4,p.atom,[],Con.atom (.mk k nm lo hi ad cap ps),nm,[],[],0,0,0⟩ frm (p.leftP frm l) E y (by have:=Con.leftP_len frm _ p (yab_ _) l;have:=Con.sz_at A;omega)) rfl (.cons _ (@List.perm_append_comm _ [_] _)) zt rfl λx=>?_));obtain⟨G,Q⟩:=x;refine s_ (@List.perm_append_comm _ _ [_]) (Zz 2 ?_);refine y_ (λ_ a b=>⟨Vw.sat.sub a,b⟩) (Zz 2 ?_);exact end0 results177 ⟨G,(by rw[Con.leftP6 (c:=(.mk k nm lo hi ad cap ps)) (p:=p) zar_ T];exact Q)⟩ rfl (F:=[_]) (@List.perm_append_comm _ [_] _) zt
    . rw[M]at J I;simp[nd,dC_]at J I
      refine Zz 14 ?_;refine bc_ [(1,zp_ bs 0),(2,zp_ bk 0),(3,zp_ B 0),(15,.slice ad ps.length cap),(16,i4_ ps.length),(17,i4_ ((0:Nat):Int))] zl ?_;refine bs_ (ι:={x:Nat×CS // x.1<=ps.length/\CInv (Con.leftP.lefts frm (ps.take x.1) l) x.2}) (λx=>[(1,zp_ bs 0),(2,zp_ bk 0),(3,zp_ B 0),(15,.slice ad ps.length cap),(16,i4_ ps.length),(17,i4_ x.1.1)]) (λx=>_::go_ kb frm x.1.2) (λ_=>_) (λx=>ps.length - x.1.1) ⟨(0,q),by simp,by simpa [Con.leftP.lefts] using W⟩ ?_;rintro ⟨⟨i,E⟩,V⟩;dsimp only at V;refine bc_ [(1,zp_ bs 0),(2,zp_ bk 0),(3,zp_ B 0),(15,.slice ad ps.length cap),(16,i4_ ps.length),(17,i4_ i)] zl ?_;refine Zj 2 (λC=>?_) λC=>?_
      . obtain rfl:i=ps.length:=by omega
        rw[ybE_]at V;obtain⟨p,A⟩:∃ p,ps[0]? = some p:=⟨_,yaa_ (show 0<ps.length by omega)⟩;have o:p∈ps:=yad_ A;refine Zz 10 ?_;refine c_ (J_ z_ i_ rfl rfl (λv _ h=>az_ (n:=5) Con.cells_len zaj_ (((Con.mem_iff (.mk k nm lo hi ad cap ps) v).1 h.1).1) A) zaa_ zan_) rfl ?_;refine c_ (ax_ (ad:=ad) (us:=p.cells) H_ i_ rfl (λv _ h=>((Con.mem_iff (.mk k nm lo hi ad cap ps) v).1 h.1).1) (Con.cells_len _) (t_ Con.cells_len A)) rfl (d_ (cJ_ p (Con.ok_part (c:=(.mk k nm lo hi ad cap ps)) u o)) rfl (.refl _) (λv _ h=>⟨Con.mem_part (c:=(.mk k nm lo hi ad cap ps)) h.1 o,h.2.1,trivial⟩) rfl λ_=>Zz 7 ?_);refine c_ (cq_ (i:=1) (j:=ps.length) (kl:=.i64) (kh:=.i64) z_ i_ rfl rfl rfl zaa_ (by first|omega|(simp only[Con.cap];omega))) rfl ?_;refine Zz 5 ?_;refine bc_ [(1,zp_ bs 0),(2,zp_ bk 0),(3,zp_ B 0),(6,str p.atom),(32,.slice (sad ad cap 1 5) (ps.length - 1) (cap - 1)),(33,i4_ ((ps.length - 1:Nat):Int)),(34,i4_ ((0:Nat):Int))] zl ?_;have hh:=Con.headD_atom A;have S:=Con.lefts_len frm ps ps.length l;rw[ybE_]at S;generalize p.atom=f0 at hh ⊢
        refine bs_ (ι:={x:Nat×Str×List Pc×CS // x.1<=ps.length - 1/\CInv x.2.2.1 x.2.2.2/\x.2.2.1.length<=(Con.leftP.lefts frm ps l).length+x.1/\Con.andP frm (.mk k nm lo hi ad cap ps) (ps.drop 1) 1 f0 (Con.leftP.lefts frm ps l)=Con.andP frm (.mk k nm lo hi ad cap ps) (ps.drop (1+x.1)) (1+x.1) x.2.1 x.2.2.1}) (λx=>[(1,zp_ bs 0),(2,zp_ bk 0),(3,zp_ B 0),(6,str x.1.2.1),(32,.slice (sad ad cap 1 5) (ps.length - 1) (cap - 1)),(33,i4_ ((ps.length - 1:Nat):Int)),(34,i4_ x.1.1)]) (λx=>_::go_ kb frm x.1.2.2.2) (λ_=>_) (λx=>ps.length - 1 - x.1.1) ⟨(0,f0,(Con.leftP.lefts frm ps l),E),by simp,V.2,by simp,rfl⟩ ?_;rintro ⟨⟨i,f,P,G⟩,U⟩;dsimp only at U;refine bc_ [(1,zp_ bs 0),(2,zp_ bk 0),(3,zp_ B 0),(6,str f),(32,.slice (sad ad cap 1 5) (ps.length - 1) (cap - 1)),(33,i4_ ((ps.length - 1:Nat):Int)),(34,i4_ i)] zl ?_;refine Zj 2 (λH=>?_) λH=>?_
        . refine Zz 6 ?_;exact end0 results177 ⟨G,(by have e:=U.2.2.2;rw[yaO_ (show ps.length<=1+i by omega)]at e;rw[Con.leftP5 (c:=(.mk k nm lo hi ad cap ps)) zar_];simp only[Con.parts,hh];rw[e];exact U.2.1)⟩ rfl (F:=[_]) (@List.perm_append_comm _ [_] _) zt
        . have O:i<ps.length - 1:=by omega
          obtain⟨p,A⟩:∃ p,(ps.drop 1)[i]? = some p:=⟨_,yaa_ zaC_⟩;have L:ps[1+i]? = some p:=by rw[<-List.getElem?_drop];exact A
          have o:p∈ps:=yad_ L;refine Zz 11 ?_;refine c_ (J_ z_ i_ rfl rfl (λv _ h=>az_ (n:=5) Con.cells_len zaj_ ((Con.mem_tail (c:=(.mk k nm lo hi ad cap ps)) u h.1)) A) zaa_ zan_) rfl ?_;refine c_ (ax_ (ad:=(sad ad cap 1 5)) (us:=p.cells) H_ i_ rfl (λv _ h=>(Con.mem_tail (c:=(.mk k nm lo hi ad cap ps)) u h.1)) (Con.cells_len _) (t_ Con.cells_len A)) rfl (K_ ay_ rfl λK=>Zz 1 ?_);refine fR_ 0 i_ rfl rfl rfl rfl (Zz 8 ?_);refine c_ (aD_ (cq_ (i:=0) (j:=i+2) (kl:=.i64) (kh:=.i64) z_ i_ rfl rfl rfl zaa_ (by first|omega|(simp only[Con.cap];omega))) (show _=Value.slice (sad ad cap 0 5) (ps.take (i+2)).length (cap - 0) by rw[yat_,ybk_ zaa_];rfl)) rfl ?_;refine c_ (x_ ff_ rfl rfl) rfl (d_ (cJ_ (Con.pre (.mk k nm lo hi ad cap ps) (i+2)) (Con.pre_ok u _)) rfl (.refl _) (λv _ h=>⟨Con.pre_mem u h.1 _,h.2.1,trivial⟩) rfl λ_=>Zz 4 ?_);refine aW_ [(K,.cells p.cells.toArray 28 (0,0)),(B,.cells (Con.cells (Con.mk k nm lo hi ad cap ps)).toArray 28 (0,0))] zk ?_;refine C_ 4 [0,1,2,4] zk (λ_ a b=>⟨Vw.sat.sub a,b⟩) (G_ rfl (cT_ (cs:=[zp_ kb 0]) sn_ rfl (λv _ h=>h.2.2.1) rfl) rfl (Zz 1 ?_));refine G_ rfl (dD_ 0 H_ i_ rfl rfl) rfl (Zz 2 ?_);refine j_ 3 rfl zk (d_ (cJ_ p (Con.ok_part (c:=(.mk k nm lo hi ad cap ps)) u o)) rfl (.refl _) (λv _ h=>⟨Con.mem_part (c:=(.mk k nm lo hi ad cap ps)) h.1 o,h.2.1,trivial⟩) rfl λ_=>Zz 2 ?_);refine y_ (λ_ a b=>⟨Vw.sat.sub a,b⟩) (C_ 2 [5] zk (λ_ a b=>⟨Vw.sat.sub a,b⟩) (G_ rfl (x_ ct_ rfl rfl) rfl (bd_ (j_ 6 rfl zk (p_ u_ ab_ N_ rfl rfl rfl rfl rfl rfl λb_3=>Zz 2 ?_)))));refine y_ (λ_ a b=>⟨Vw.sat.sub a.tail,b⟩) (j_ 7 rfl zk (d_ (ea_ ⟨2,f,p.atom,(Con.pre (.mk k nm lo hi ad cap ps) (i+2)).atom,[],[],[],0,0,0⟩ frm P G U.2.1 zaa_) rfl (.cons _ (@List.perm_append_comm _ [_,_] _)) zt rfl λx=>?_));obtain⟨Z,y⟩:=x;refine s_ (@List.perm_append_comm _ _ [_,_]) (Zz 2 ?_);refine y_ (λ_ a b=>⟨Vw.sat.sub a,b⟩) (Zz 12 ?_);exact w_ ⟨(i+1,(Con.pre (.mk k nm lo hi ad cap ps) (i+2)).atom,(ins frm P ⟨2,f,p.atom,(Con.pre (.mk k nm lo hi ad cap ps) (i+2)).atom,[],[],[],0,0,0⟩),Z),by omega,y,by have:=cX_ frm P ⟨2,f,p.atom,(Con.pre (.mk k nm lo hi ad cap ps) (i+2)).atom,[],[],[],0,0,0⟩;dsimp only;omega,by rw[U.2.2.2,Con.drop_at L];simp only[Con.andP];rw[show 1+i+1=i+2 by omega,show 1+(i+1)=i+2 by omega]⟩ zaC_ zl (F:=[_]) (@List.perm_append_comm _ [_] _) zh
      . have O:i<ps.length:=by omega
        obtain⟨p,A⟩:∃ p,ps[i]? = some p:=⟨_,yaa_ O⟩;have o:p∈ps:=yad_ A;refine Zz 10 ?_;refine c_ (J_ z_ i_ rfl rfl (λv _ h=>az_ (n:=5) Con.cells_len zaj_ (((Con.mem_iff (.mk k nm lo hi ad cap ps) v).1 h.1).1) A) zaa_ zan_) rfl ?_;refine c_ (ax_ (ad:=ad) (us:=p.cells) H_ i_ rfl (λv _ h=>((Con.mem_iff (.mk k nm lo hi ad cap ps) v).1 h.1).1) (Con.cells_len _) (t_ Con.cells_len A)) rfl (K_ ay_ rfl λK=>fR_ 0 i_ rfl rfl rfl rfl (Zz 3 ?_));refine c_ (cT_ (cs:=[lFn bs bk]) lp_ rfl (λv _ h=>h.2.2.2.1) rfl) rfl (c_ (dD_ 0 H_ i_ rfl rfl) rfl (bb_ (ih p zbZ_ (Con.ok_part (c:=(.mk k nm lo hi ad cap ps)) u o) (Con.fine_part (c:=(.mk k nm lo hi ad cap ps)) Y o) (Con.leftP.lefts frm (ps.take i) l) E V.2 (by have:=Con.lefts_len frm ps i l;have:=Con.sz_at A;omega)) rfl rfl (@List.perm_append_comm _ [_,_] _) (λv _ h=>by exact⟨Con.mem_part (c:=(.mk k nm lo hi ad cap ps)) h.1 o,h.2⟩) rfl λx=>?_));obtain⟨G,y⟩:=x;refine s_ (@List.perm_append_comm _ _ [_,_]) (Zz 7 ?_);exact w_ ⟨(i+1,G),O,by rw[Con.lefts_step frm A];exact y⟩ zaC_ zl (F:=[_]) (@List.perm_append_comm _ [_] _) zh
theorem fV_ {kb bk bs:Nat} {frm:Int}:∀ (d:Nat) (c:Con),c.sz<=d->c.ok->c.fine->∀ (l:List Pc) (q:CS),CInv l q->l.length+2*c.sz<=100000->
    Tri prog 178 #[c.val,zp_ bk 0,zp_ bs 0] (go_ kb frm q) [c.memF,cy_,kF bk kb,rcF bs bk] (λ_:{S:CS // CInv (c.rightP frm l) S}=>.tuple #[]) (λS=>go_ kb frm S.1) (λ_=>[]):=by
  intro d
  induction d with
  | zero=>intro c h;have:=c.sz_pos;omega
  | succ d ih =>
    intro c Z u T l q R hl;have F:=Con.fields T;have H:=F.le;have G:=F.mo;obtain⟨k,nm,lo,hi,ad,cap,ps⟩:=c;have M:=Con.ok_len u;have X:(Con.mk k nm lo hi ad cap ps).sz=1+Con.sz.szs ps:=by simp only[Con.sz]
    have V:=Con.szs_len ps;simp only[Con.parts,Con.cap,Con.kind]at M H G;refine l_ func178 rfl rfl ntmps178 rfl λW=>?_;refine Zz 2 ?_;refine Q_ rfl rfl λy=>Zj 11 (λI=>?_) λI=>?_
    . refine Zj 6 (λA=>?_) λA=>?_
      . refine Zj 6 (λP=>?_) λP=>?_
        . refine Zz 6 ?_;exact end0 results178 ⟨q,(by rw[Con.rightP0 (c:=(.mk k nm lo hi ad cap ps)) zar_ zar_ zar_];exact R)⟩ rfl (F:=[_]) (@List.perm_append_comm _ [_] _) zt
        . refine Zz 4 ?_;refine aW_ [(y,.cells (Con.cells (Con.mk k nm lo hi ad cap ps)).toArray 28 (0,0))] zk ?_;refine C_ 4 [0,1,3,4,5,6,7,8] zk (λ_ a b=>⟨Vw.sat.sub a,b⟩) (G_ rfl (cT_ (cs:=[zp_ kb 0]) sn_ rfl (λv _ h=>h.2.2.1) rfl) rfl (Zz 8 ?_));refine j_ 2 rfl zk (d_ (cJ_ (.mk k nm lo hi ad cap ps) u) rfl (.refl _) zf rfl λ_=>Zz 2 ?_);refine y_ (λ_ a b=>⟨Vw.sat.sub a,b⟩) (C_ 2 [9] zk (λ_ a b=>⟨Vw.sat.sub a,b⟩) (G_ rfl (x_ ct_ rfl rfl) rfl (bd_ (j_ 10 rfl zk (p_ u_ ab_ N_ rfl rfl rfl rfl rfl rfl λJ=>Zz 2 ?_)))));refine y_ (λ_ a b=>⟨Vw.sat.sub a.tail,b⟩) (j_ 11 rfl zk (d_ (ea_ ⟨8,Con.atom (.mk k nm lo hi ad cap ps),[],[],nm,[],[],lo,hi,0⟩ frm l q R zaa_) rfl (.cons _ (@List.perm_append_comm _ [_] _)) zt rfl λx=>?_));obtain⟨C,o⟩:=x;refine s_ (@List.perm_append_comm _ _ [_]) (Zz 2 ?_);refine y_ (λ_ a b=>⟨Vw.sat.sub a,b⟩) (Zz 2 ?_);exact end0 results178 ⟨C,(by rw[Con.rightP7 (c:=(.mk k nm lo hi ad cap ps)) zar_];exact o)⟩ rfl (F:=[_]) (@List.perm_append_comm _ [_] _) zt
      . rw[A]at H G;simp[nd,dC_]at H G
        obtain⟨p,O⟩:=ybb_.1 (show ps.length=1 by omega);have B:ps[0]? = some p:=by rw[O];rfl
        have e:p∈ps:=yad_ B;refine Zz 5 ?_;refine aW_ [(y,.cells (Con.cells (Con.mk k nm lo hi ad cap ps)).toArray 28 (0,0))] zk ?_;refine C_ 5 [0,1,3,4,5,6,7,8] zk (λ_ a b=>⟨Vw.sat.sub a,b⟩) (G_ rfl (cT_ (cs:=[zp_ kb 0]) sn_ rfl (λv _ h=>h.2.2.1) rfl) rfl (Zz 5 ?_));refine G_ rfl (J_ z_ i_ rfl rfl (λv _ h=>az_ (n:=5) Con.cells_len zaj_ (((Con.mem_iff (.mk k nm lo hi ad cap ps) v).1 h.1).1) B) zaa_ zan_) rfl ?_;refine G_ rfl (ax_ (ad:=ad) (us:=p.cells) H_ i_ rfl (λv _ h=>((Con.mem_iff (.mk k nm lo hi ad cap ps) v).1 h.1).1) (Con.cells_len _) (t_ Con.cells_len B)) rfl (bd_ (j_ 2 rfl zk (d_ (cJ_ (.mk k nm lo hi ad cap ps) u) rfl (.refl _) zf rfl λ_=>Zz 2 ?_)));refine y_ (λ_ a b=>⟨Vw.sat.sub a,b⟩) (j_ 9 rfl zk (d_ (cJ_ p (Con.ok_part (c:=(.mk k nm lo hi ad cap ps)) u e)) rfl (.refl _) (λv _ h=>⟨Con.mem_part (c:=(.mk k nm lo hi ad cap ps)) h.1 e,h.2.1,trivial⟩) rfl λ_=>Zz 2 ?_));refine y_ (λ_ a b=>⟨Vw.sat.sub a,b⟩) (C_ 2 [10] zk (λ_ a b=>⟨Vw.sat.sub a,b⟩) (G_ rfl (x_ ct_ rfl rfl) rfl (bd_ (j_ 11 rfl zk (p_ u_ ab_ N_ rfl rfl rfl rfl rfl rfl λJ=>Zz 2 ?_)))));refine y_ (λ_ a b=>⟨Vw.sat.sub a.tail,b⟩) (j_ 12 rfl zk (d_ (ea_ ⟨3,Con.atom (.mk k nm lo hi ad cap ps),[],p.atom,nm,[],[],0,0,0⟩ frm l q R zaa_) rfl (.cons _ (@List.perm_append_comm _ [_] _)) zt rfl λx=>?_));obtain⟨C,o⟩:=x;refine s_ (@List.perm_append_comm _ _ [_]) (Zz 2 ?_);refine y_ (λ_ a b=>⟨Vw.sat.sub a,b⟩) (Zz 2 ?_);refine aW_ [(y,.cells (Con.cells (Con.mk k nm lo hi ad cap ps)).toArray 28 (0,0))] zk ?_;refine C_ 1 [0,1,2,3,4] zk (λ_ a b=>⟨Vw.sat.sub a,b⟩) (G_ rfl (cT_ (cs:=[rFn bs bk]) lp_ rfl (λv _ h=>h.2.2.2.1) rfl) rfl (Zz 2 ?_));refine G_ rfl (J_ z_ i_ rfl rfl (λv _ h=>az_ (n:=5) Con.cells_len zaj_ (((Con.mem_iff (.mk k nm lo hi ad cap ps) v).1 h.1).1) B) zaa_ zan_) rfl ?_;refine G_ rfl (ax_ (ad:=ad) (us:=p.cells) H_ i_ rfl (λv _ h=>((Con.mem_iff (.mk k nm lo hi ad cap ps) v).1 h.1).1) (Con.cells_len _) (t_ Con.cells_len B)) rfl (bd_ (j_ 5 rfl zk (bb_ (ih p zca_ (Con.ok_part (c:=(.mk k nm lo hi ad cap ps)) u e) (Con.fine_part (c:=(.mk k nm lo hi ad cap ps)) T e) (ins frm l ⟨3,Con.atom (.mk k nm lo hi ad cap ps),[],p.atom,nm,[],[],0,0,0⟩) C o (by have:=cX_ frm l ⟨3,Con.atom (.mk k nm lo hi ad cap ps),[],p.atom,nm,[],[],0,0,0⟩;have:=Con.sz_at B;omega)) rfl rfl (@List.perm_append_comm _ [_] _) (λv _ h=>by exact⟨Con.mem_part (c:=(.mk k nm lo hi ad cap ps)) h.1 e,h.2⟩) rfl λx=>?_)));obtain⟨K,E⟩:=x;refine s_ (@List.perm_append_comm _ _ [_]) (Zz 2 ?_);refine y_ (λ_ a b=>⟨Vw.sat.sub a,b⟩) (Zz 2 ?_);exact end0 results178 ⟨K,(by rw[Con.rightP6 (c:=(.mk k nm lo hi ad cap ps)) (p:=p) zar_ O];exact E)⟩ rfl (F:=[_]) (@List.perm_append_comm _ [_] _) zt
    . rw[I]at H G;simp[nd,dC_]at H G
      refine Zz 13 ?_;refine bc_ [(1,zp_ bk 0),(2,zp_ bs 0),(3,zp_ y 0),(11,.slice ad ps.length cap),(12,i4_ ps.length),(13,i4_ ((0:Nat):Int))] zl ?_;refine bs_ (ι:={x:Nat×CS // x.1<=ps.length/\CInv (Con.rightP.rights frm (Con.atom (.mk k nm lo hi ad cap ps)) (ps.take x.1) l) x.2}) (λx=>[(1,zp_ bk 0),(2,zp_ bs 0),(3,zp_ y 0),(11,.slice ad ps.length cap),(12,i4_ ps.length),(13,i4_ x.1.1)]) (λx=>_::go_ kb frm x.1.2) (λ_=>_) (λx=>ps.length - x.1.1) ⟨(0,q),by simp,by simpa [Con.rightP.rights] using R⟩ ?_;rintro ⟨⟨i,C⟩,Q⟩;dsimp only at Q;refine bc_ [(1,zp_ bk 0),(2,zp_ bs 0),(3,zp_ y 0),(11,.slice ad ps.length cap),(12,i4_ ps.length),(13,i4_ i)] zl ?_;refine Zj 2 (λA=>?_) λA=>?_
      . obtain rfl:i=ps.length:=by omega
        rw[ybE_]at Q;refine Zz 6 ?_;exact end0 results178 ⟨C,(by rw[Con.rightP5 (c:=(.mk k nm lo hi ad cap ps)) zar_];exact Q.2)⟩ rfl (F:=[_]) (@List.perm_append_comm _ [_] _) zt
      . have L:i<ps.length:=by omega
        obtain⟨p,B⟩:∃ p,ps[i]? = some p:=⟨_,yaa_ L⟩;have e:p∈ps:=yad_ B;refine Zz 10 ?_;refine c_ (J_ z_ i_ rfl rfl (λv _ h=>az_ (n:=5) Con.cells_len zaj_ (((Con.mem_iff (.mk k nm lo hi ad cap ps) v).1 h.1).1) B) zaa_ zan_) rfl ?_;refine c_ (ax_ (ad:=ad) (us:=p.cells) H_ i_ rfl (λv _ h=>((Con.mem_iff (.mk k nm lo hi ad cap ps) v).1 h.1).1) (Con.cells_len _) (t_ Con.cells_len B)) rfl (K_ ay_ rfl λJ=>fR_ 0 i_ rfl rfl rfl rfl (Zz 3 ?_));refine aW_ [(J,.cells p.cells.toArray 28 (0,0)),(y,.cells (Con.cells (Con.mk k nm lo hi ad cap ps)).toArray 28 (0,0))] zk ?_;refine C_ 5 [0,1,3] zk (λ_ a b=>⟨Vw.sat.sub a,b⟩) (G_ rfl (cT_ (cs:=[zp_ kb 0]) sn_ rfl (λv _ h=>h.2.2.1) rfl) rfl (Zz 1 ?_));refine G_ rfl (dD_ 0 H_ i_ rfl rfl) rfl (bd_ (j_ 2 rfl zk (d_ (cJ_ (.mk k nm lo hi ad cap ps) u) rfl (.refl _) zf rfl λ_=>Zz 2 ?_)));refine y_ (λ_ a b=>⟨Vw.sat.sub a,b⟩) (j_ 4 rfl zk (d_ (cJ_ p (Con.ok_part (c:=(.mk k nm lo hi ad cap ps)) u e)) rfl (.refl _) (λv _ h=>⟨Con.mem_part (c:=(.mk k nm lo hi ad cap ps)) h.1 e,h.2.1,trivial⟩) rfl λ_=>Zz 2 ?_));refine y_ (λ_ a b=>⟨Vw.sat.sub a,b⟩) (C_ 2 [5] zk (λ_ a b=>⟨Vw.sat.sub a,b⟩) (G_ rfl (x_ ct_ rfl rfl) rfl (bd_ (j_ 6 rfl zk (p_ u_ ab_ N_ rfl rfl rfl rfl rfl rfl λY=>Zz 2 ?_)))));refine y_ (λ_ a b=>⟨Vw.sat.sub a.tail,b⟩) (j_ 7 rfl zk (d_ (ea_ ⟨1,Con.atom (.mk k nm lo hi ad cap ps),[],p.atom,[],[],[],0,0,0⟩ frm (Con.rightP.rights frm (Con.atom (.mk k nm lo hi ad cap ps)) (ps.take i) l) C Q.2 (by have:=Con.rights_len frm (Con.atom (.mk k nm lo hi ad cap ps)) ps i l;have:=Con.sz_at B;have:=p.sz_pos;omega)) rfl (.cons _ (@List.perm_append_comm _ [_,_] _)) zt rfl λx=>?_));obtain⟨K,o⟩:=x;refine s_ (@List.perm_append_comm _ _ [_,_]) (Zz 2 ?_);refine y_ (λ_ a b=>⟨Vw.sat.sub a,b⟩) (Zz 3 ?_);refine c_ (cT_ (cs:=[rFn bs bk]) lp_ rfl (λv _ h=>h.2.2.2.1) rfl) rfl (c_ (dD_ 0 H_ i_ rfl rfl) rfl (bb_ (ih p zca_ (Con.ok_part (c:=(.mk k nm lo hi ad cap ps)) u e) (Con.fine_part (c:=(.mk k nm lo hi ad cap ps)) T e) (ins frm (Con.rightP.rights frm (Con.atom (.mk k nm lo hi ad cap ps)) (ps.take i) l) ⟨1,Con.atom (.mk k nm lo hi ad cap ps),[],p.atom,[],[],[],0,0,0⟩) K o (by have:=Con.rights_len frm (Con.atom (.mk k nm lo hi ad cap ps)) ps i l;have:=Con.sz_at B;have:=cX_ frm (Con.rightP.rights frm (Con.atom (.mk k nm lo hi ad cap ps)) (ps.take i) l) ⟨1,(Con.atom (.mk k nm lo hi ad cap ps)),[],p.atom,[],[],[],0,0,0⟩;omega)) rfl rfl (@List.perm_append_comm _ [_,_] _) (λv _ h=>by exact⟨Con.mem_part (c:=(.mk k nm lo hi ad cap ps)) h.1 e,h.2⟩) rfl λx=>?_));obtain⟨U,E⟩:=x;refine s_ (@List.perm_append_comm _ _ [_,_]) (Zz 7 ?_);exact w_ ⟨(i+1,U),L,by rw[Con.rights_step frm _ B];exact E⟩ zaC_ zl (F:=[_]) (@List.perm_append_comm _ [_] _) zh
end Go.Proofs.YtbffkokbdeppaaaGreatDoor
