/-
  Lemmas for the law ModuleGoal (no condition).
-/
import Derived.Test.YtbffkokbdeppaaaGreatDoorQModuleGoal3
import Derived.Test.YtbffkokbdeppaaaGreatDoorProg
set_option linter.unusedVariables false
set_option linter.unusedSimpArgs false
set_option linter.unusedSectionVars false
set_option maxHeartbeats 1000000
namespace Go.Proofs.YtbffkokbdeppaaaGreatDoor
open Go Go.Sx Go.Proofs Tryz
attribute [local irreducible] Code.wp wpList wpAnyH
open Go.Vs
theorem ki_ {G:Prop} (h:G:=by
 refine Zz 6 ?_;exact met ⟨rfl,rfl,rfl,(z_ rfl (jaf d)),trivial⟩):G:=h
theorem qU_ (c:Con):Fn0 prog 194 #[c.val] (.bool c.empty):=by
 obtain⟨k,nm,lo,hi,ad,cap,ps⟩:=c;refine j_ func194 rfl rfl ntmps194 rfl λH=>?_;refine Zz 2 ?_;refine L_ rfl rfl λy=>Zz 7 ?_
 refine F_ (aV_ rfl rfl) rfl λG m=>Zz 1 ?_
 refine aE_ 4 ((k==0)&&(nm==[])) (λr=>[(0,.agg (Con.cells (Con.mk k nm lo hi ad cap ps)).toArray),(1,zp_ y 0),(2,.bool false),(10,.bool r)]) ?_ λF v=>?_
 .cases G
  .have d:=m
   replace m:=znb m;exact ki_
  have d:=m;replace m:=zeb m;refine Zz 5 ?_;refine F_ (dR_ rfl rfl) rfl λB h=>Zz 3 ?_
  exact met ⟨rfl,rfl,rfl,(z_ rfl (jat d h)),trivial⟩
 refine Zz 1 ?_;refine aE_ 4 ((((k==0)&&(nm==[])))&&(lo==0)) (λr=>[(0,.agg (Con.cells (Con.mk k nm lo hi ad cap ps)).toArray),(1,zp_ y 0),(2,.bool false),(15,.bool r)]) ?_ λB h=>?_
 .cases F
  .have d:=v
   simp at v
   exact ki_
  have d:=v;simp at v
  refine Zz 5 ?_;refine F_ (aV_ rfl rfl) rfl λA e=>Zz 3 ?_
  exact met ⟨rfl,rfl,rfl,(z_ rfl (jat d e)),trivial⟩
 refine Zz 1 ?_;refine aE_ 4 ((((((k==0)&&(nm==[])))&&(lo==0)))&&(hi==0)) (λr=>[(0,.agg (Con.cells (Con.mk k nm lo hi ad cap ps)).toArray),(1,zp_ y 0),(2,.bool false),(20,.bool r)]) ?_ λA e=>?_
 .cases B
  .have d:=h
   simp at h
   exact ki_
  have d:=h;simp at h
  refine Zz 5 ?_;refine F_ (aV_ rfl rfl) rfl λE x=>Zz 3 ?_
  exact met ⟨rfl,rfl,rfl,(z_ rfl (jat d x)),trivial⟩
 refine Zz 1 ?_;refine aE_ 5 ((((((((k==0)&&(nm==[])))&&(lo==0)))&&(hi==0)))&&((ps.length:Int)==0)) (λr=>[(0,.agg (Con.cells (Con.mk k nm lo hi ad cap ps)).toArray),(2,.bool false),(26,.bool r)]) ?_ λE x=>?_
 .cases A
  .have d:=e
   simp at e
   refine Zz 7 ?_;exact met ⟨rfl,rfl,(z_ rfl (jaf d)),trivial⟩
  have d:=e;simp at e
  refine Zz 7 ?_;refine F_ (aV_ rfl rfl) rfl λI C=>Zz 3 ?_
  exact met ⟨rfl,rfl,(z_ rfl (jat d C)),trivial⟩
 refine Zz 4 ?_;exact ac_ results194 () (z_ rfl x.symm) (.refl _) zt
theorem rS_ {g:FuncId} {pred:Con->Bool} (c:Con) (A:c.ok) (F:∀ p∈c.parts,Tri prog g #[p.val] [] [p.memF] (λ_:Unit=>.bool (pred p)) (λ_=>[]) (λ_=>[])) :
    Tri prog 277 #[.slice c.ad c.parts.length c.cap,.func (.func g) #[] #[]] [] [c.memF] (λr:{r:Int // decide (0<=r)=c.parts.any pred}=>i4_ r.1) (λ_=>[]) (λ_=>[]):=by
  obtain⟨k,nm,lo,hi,ad,cap,ps⟩:=c;have x:=Con.ok_len A;simp only[Con.parts,Con.cap]at x;refine j_ func277 rfl rfl ntmps277 rfl λE=>?_;refine Zz 14 ?_;refine bF_ [(0,.slice ad ps.length cap),(1,.func (.func g) #[] #[]),(7,i4_ ps.length),(8,i4_ ((0:Nat):Int))] zl ?_;refine bY_ (ι:={q:Nat // q<=ps.length/\(ps.take q).any pred=false}) (λi=>[(0,.slice ad ps.length cap),(1,.func (.func g) #[] #[]),(7,i4_ ps.length),(8,i4_ i.1)]) (λ_=>_) (λ_=>_) (λi=>ps.length - i.1) ⟨0,by simp⟩ ?_;rintro ⟨i,hk⟩;refine bF_ [(0,.slice ad ps.length cap),(1,.func (.func g) #[] #[]),(7,i4_ ps.length),(8,i4_ i)] zl ?_;refine Zj 2 (λm=>?_) λm=>?_
  . refine Zz 12 ?_;exact ac_ results277 ⟨-1,by have:=hk.2;rw[yac_ zaa_]at this;show _=ps.any pred;rw[this];rfl⟩ rfl (.refl _) zt
  . have e:i<ps.length:=by omega
    obtain⟨p,y⟩:∃ p,ps[i]? = some p:=⟨_,yaa_ e⟩;have d:p∈ps:=yab_ y;refine Zz 19 ?_;refine d_ (P_ af_ t_ rfl rfl (λv _ h=>av_ (n:=5) Con.cells_len zae_ (((Con.mem_iff (.mk k nm lo hi ad cap ps) v).1 h.1).1) y) zaa_ zah_) rfl ?_;refine d_ (ak_ (ad:=ad) (us:=p.cells) ae_ t_ rfl (λv _ h=>((Con.mem_iff (.mk k nm lo hi ad cap ps) v).1 h.1).1) (Con.cells_len _) (A_ Con.cells_len y)) rfl (cb_ (F p d) rfl rfl (.refl _) (λv _ h=>by exact⟨Con.mem_part (c:=(.mk k nm lo hi ad cap ps)) h.1 d,trivial⟩) rfl λB C=>Zz 2 ?_);cases B
    . refine Zz 8 ?_;exact w_ ⟨i+1,e,by rw[Con.take_snoc y,List.any_append,hk.2];simp[*]⟩ zar_ zl (.refl _) zh
    . refine Zz 8 ?_;exact ac_ results277 ⟨(i:Int),by show _=ps.any pred;rw[show ps.any pred=true from yco_.2 ⟨p,d,by assumption⟩];exact yaW_ zaa_⟩ rfl (.refl _) zt
theorem nC_ {g:FuncId} {pred:Con->Bool} (c:Con) (e:c.ok) (m:∀ p∈c.parts,Tri prog g #[p.val] [] [p.memF] (λ_:Unit=>.bool (pred p)) (λ_=>[]) (λ_=>[])) :
    Tri prog 198 #[.slice c.ad c.parts.length c.cap,.func (.func g) #[] #[]] [] [c.memF] (λ_:Unit=>.bool (c.parts.any pred)) (λ_=>[]) (λ_=>[]):=by
  obtain⟨k,nm,lo,hi,ad,cap,ps⟩:=c;refine j_ func198 rfl rfl ntmps198 rfl λA=>?_;refine Zz 9 ?_;refine f_ (rS_ (.mk k nm lo hi ad cap ps) e m) rfl (.refl _) (λv _ h=>h) rfl λx=>F_ (er_ rfl rfl) rfl λy d=>Zz 4 ?_
  exact ac_ results198 () (z_ rfl (d.symm.trans x.2)) (.refl _) zt
theorem dU_:∀ (m:Nat) (c:Con),c.sz<=m->c.ok->Tri prog 116 #[c.val] [] [c.memF] (λ_:Unit=>.bool c.bare) (λ_=>[]) (λ_=>[]):=by
 intro m
 induction m with
 | zero=>intro c h;have:=c.sz_pos;omega
 | succ m ih =>
   intro c hm d;obtain⟨k,nm,lo,hi,ad,cap,ps⟩:=c;refine j_ func116 rfl rfl ntmps116 rfl λB=>?_;refine Zz 2 ?_;refine L_ rfl rfl λC=>Zj 13 (λe=>?_) λe=>?_
   . refine Zj 6 (λx=>?_) λx=>?_
     . refine Zz 12 ?_;exact ac_ results116 () (z_ rfl zaO_) (.refl _) zt
     . refine Zz 8 ?_;refine aq_ (nC_ (pred:=Con.bare) (.mk k nm lo hi ad cap ps) d (λp y=>ih p (by have:=Con.sz_part (c:=(.mk k nm lo hi ad cap ps)) y;omega) (Con.ok_part (c:=(.mk k nm lo hi ad cap ps)) d y))) rfl (.refl _) (λv _ h=>h) rfl λE A=>?_;refine Zz 4 ?_;exact ac_ results116 () (z_ rfl zaO_) (.refl _) zt
   . refine Zz 10 ?_;exact ac_ results116 () (z_ rfl zaO_) (.refl _) zt
theorem hX_ {G:Prop} (h:G:=by
 refine Zz 7 ?_;exact met ⟨rfl,rfl,rfl,rfl,rfl,rfl,rfl,rfl,rfl,rfl,(z_ rfl (jot rfl)),trivial⟩):G:=h
theorem fo_ {G:Prop} (h:G:=by
 exact met ⟨rfl,rfl,rfl,rfl,rfl,rfl,rfl,rfl,rfl,(z_ rfl (jaf d)),trivial⟩):G:=h
theorem vv_ (x:Ax):Tri prog 113 #[x.val] [] [bE_] (λ_:Unit=>.bool x.shaped) (λ_=>[]) (λ_=>[]):=by
 obtain⟨k,Z,⟨kl,L,O,hl,al,cl,pl⟩,⟨M,J,P,K,C,G,H⟩,ad,cap,W,T,a,b⟩:=x;refine j_ func113 rfl rfl ntmps113 rfl λv_1=>?_;refine Zz 2 ?_;refine L_ rfl rfl λe=>Zz 8 ?_
 refine F_ (cO_ rfl rfl) rfl λb0 Q=>Zz 1 ?_
 refine aE_ 4 ((decide (k<1))||(decide (9<k))) (λr=>[(0,.agg (Ax.cells (Ax.mk k Z (Con.mk kl L O hl al cl pl) (Con.mk M J P K C G H) ad cap W T a b)).toArray),(1,zp_ e 0),(2,.bool false),(11,.bool r)]) ?_ λa9 a0=>?_
 .cases b0
  .have d:=Q
   replace Q:=zdf Q;refine Zz 5 ?_;refine F_ (dq_ rfl rfl) rfl λa6 N=>Zz 3 ?_
   exact met (zm (jof d N))
  have d:=Q;replace Q:=zdt Q;refine Zz 6 ?_;exact met ⟨rfl,rfl,rfl,(z_ rfl (jot d)),trivial⟩
 refine Zz 2 ?_;cases a9
 .simp at a0
  obtain⟨u,hx⟩:∃ u,uE_[k.toNat]? = some u:=⟨_,yaa_ (show k.toNat<10 by omega)⟩;have b3:us k=u:=by simp[us,hx]
  obtain⟨ul,I,S,U,ub,X,Y⟩:=u;refine Zz 7 ?_;refine d_ (db_ runUnderlying91 eH_ rfl rfl zbD_ (by show k<(10:Int);omega)) rfl ?_;refine d_ (ak_ (ad:=some ⟨0,0,none⟩) (us:=Use.cells ⟨ul,I,S,U,ub,X,Y⟩) isAgg90 eH_ rfl (λv _ h=>h.1.2.1) (Use.cells_len _) (A_ Use.cells_len hx)) rfl (C_ zeroValue90 rfl λB=>p_ 0 eH_ rfl rfl rfl rfl rfl rfl (Zz 7 ?_));let Pu:Array Value:=#[.bool ul,.bool I,.bool S,.bool U,.bool ub,i4_ X,i4_ Y];refine aE_ 4 ((ul)||(Con.empty (.mk kl L O hl al cl pl))) (λr=>[(0,.agg (Ax.cells (Ax.mk k Z (Con.mk kl L O hl al cl pl) (Con.mk M J P K C G H) ad cap W T a b)).toArray),(1,zp_ e 0),(2,.bool false),(11,.bool false),(12,zp_ e 0),(13,i4_ k),(14,.pointer (some (rad (some ⟨0,0,none⟩) (k.toNat*7)))),(15,.agg Pu),(3,zp_ B 0),(22,.bool r)]) ?_ λa6 N=>?_
  .cases ul
   .refine Zz 5 ?_;refine aq_ (qU_ (.mk kl L O hl al cl pl)) rfl (.refl _) zt rfl λa7 F=>Zz 3 ?_
    exact met (zm (jof rfl F))
   refine Zz 6 ?_;exact met ⟨rfl,rfl,rfl,rfl,rfl,rfl,rfl,rfl,rfl,(z_ rfl (jot rfl)),trivial⟩
  refine Zz 1 ?_;refine aE_ 8 ((((ul)||(Con.empty (.mk kl L O hl al cl pl))))&&(((I)||(Con.empty (.mk M J P K C G H))))) (λr=>[(0,.agg (Ax.cells (Ax.mk k Z (Con.mk kl L O hl al cl pl) (Con.mk M J P K C G H) ad cap W T a b)).toArray),(1,zp_ e 0),(2,.bool false),(11,.bool false),(12,zp_ e 0),(13,i4_ k),(14,.pointer (some (rad (some ⟨0,0,none⟩) (k.toNat*7)))),(15,.agg Pu),(3,zp_ B 0),(31,.bool r)]) ?_ λa7 F=>?_
  .cases a6
   .have d:=N
    simp at N
    refine Zz 10 ?_;exact fo_
   have d:=N;simp at N
   refine Zz 6 ?_;refine aE_ 4 ((I)||(Con.empty (.mk M J P K C G H))) (λr=>[(0,.agg (Ax.cells (Ax.mk k Z (Con.mk kl L O hl al cl pl) (Con.mk M J P K C G H) ad cap W T a b)).toArray),(1,zp_ e 0),(2,.bool false),(11,.bool false),(12,zp_ e 0),(13,i4_ k),(14,.pointer (some (rad (some ⟨0,0,none⟩) (k.toNat*7)))),(15,.agg Pu),(3,zp_ B 0),(23,.bool true),(30,.bool r)]) ?_ λa5 E=>?_
   .cases I
    .refine Zz 5 ?_;refine aq_ (qU_ (.mk M J P K C G H)) rfl (.refl _) zt rfl λa1 A=>Zz 4 ?_
     exact met (zm (jof rfl A))
    exact hX_
   refine Zz 3 ?_;exact met ⟨rfl,rfl,rfl,rfl,rfl,rfl,rfl,rfl,rfl,(z_ rfl (jat d E)),trivial⟩
  refine Zz 1 ?_;refine aE_ 8 ((((((ul)||(Con.empty (.mk kl L O hl al cl pl))))&&(((I)||(Con.empty (.mk M J P K C G H))))))&&(((S)||(T==[])))) (λr=>[(0,.agg (Ax.cells (Ax.mk k Z (Con.mk kl L O hl al cl pl) (Con.mk M J P K C G H) ad cap W T a b)).toArray),(1,zp_ e 0),(2,.bool false),(11,.bool false),(12,zp_ e 0),(13,i4_ k),(14,.pointer (some (rad (some ⟨0,0,none⟩) (k.toNat*7)))),(15,.agg Pu),(3,zp_ B 0),(40,.bool r)]) ?_ λa5 E=>?_
  .cases a7
   .have d:=F
    simp at F
    refine Zz 10 ?_;exact fo_
   have d:=F;simp at F
   refine Zz 6 ?_;refine aE_ 4 ((S)||(T==[])) (λr=>[(0,.agg (Ax.cells (Ax.mk k Z (Con.mk kl L O hl al cl pl) (Con.mk M J P K C G H) ad cap W T a b)).toArray),(1,zp_ e 0),(2,.bool false),(11,.bool false),(12,zp_ e 0),(13,i4_ k),(14,.pointer (some (rad (some ⟨0,0,none⟩) (k.toNat*7)))),(15,.agg Pu),(3,zp_ B 0),(32,.bool true),(39,.bool r)]) ?_ λa1 A=>?_
   .cases S
    .refine Zz 5 ?_;refine F_ (dR_ rfl rfl) rfl λa4 y=>Zz 4 ?_
     exact met (zm (jof rfl y))
    exact hX_
   refine Zz 3 ?_;exact met ⟨rfl,rfl,rfl,rfl,rfl,rfl,rfl,rfl,rfl,(z_ rfl (jat d A)),trivial⟩
  refine Zz 1 ?_;refine aE_ 8 ((((((((ul)||(Con.empty (.mk kl L O hl al cl pl))))&&(((I)||(Con.empty (.mk M J P K C G H))))))&&(((S)||(T==[])))))&&(((U)||(a==[])))) (λr=>[(0,.agg (Ax.cells (Ax.mk k Z (Con.mk kl L O hl al cl pl) (Con.mk M J P K C G H) ad cap W T a b)).toArray),(1,zp_ e 0),(2,.bool false),(11,.bool false),(12,zp_ e 0),(13,i4_ k),(14,.pointer (some (rad (some ⟨0,0,none⟩) (k.toNat*7)))),(15,.agg Pu),(3,zp_ B 0),(49,.bool r)]) ?_ λa1 A=>?_
  .cases a5
   .have d:=E
    simp at E
    refine Zz 10 ?_;exact fo_
   have d:=E;simp at E
   refine Zz 6 ?_;refine aE_ 4 ((U)||(a==[])) (λr=>[(0,.agg (Ax.cells (Ax.mk k Z (Con.mk kl L O hl al cl pl) (Con.mk M J P K C G H) ad cap W T a b)).toArray),(1,zp_ e 0),(2,.bool false),(11,.bool false),(12,zp_ e 0),(13,i4_ k),(14,.pointer (some (rad (some ⟨0,0,none⟩) (k.toNat*7)))),(15,.agg Pu),(3,zp_ B 0),(41,.bool true),(48,.bool r)]) ?_ λa4 y=>?_
   .cases U
    .refine Zz 5 ?_;refine F_ (dR_ rfl rfl) rfl λa3 m=>Zz 4 ?_
     exact met (zm (jof rfl m))
    exact hX_
   refine Zz 3 ?_;exact met ⟨rfl,rfl,rfl,rfl,rfl,rfl,rfl,rfl,rfl,(z_ rfl (jat d y)),trivial⟩
  refine Zz 1 ?_;refine aE_ 8 ((((((((((ul)||(Con.empty (.mk kl L O hl al cl pl))))&&(((I)||(Con.empty (.mk M J P K C G H))))))&&(((S)||(T==[])))))&&(((U)||(a==[])))))&&(((ub)||(b==[])))) (λr=>[(0,.agg (Ax.cells (Ax.mk k Z (Con.mk kl L O hl al cl pl) (Con.mk M J P K C G H) ad cap W T a b)).toArray),(1,zp_ e 0),(2,.bool false),(11,.bool false),(12,zp_ e 0),(13,i4_ k),(14,.pointer (some (rad (some ⟨0,0,none⟩) (k.toNat*7)))),(15,.agg Pu),(3,zp_ B 0),(58,.bool r)]) ?_ λa4 y=>?_
  .cases a1
   .have d:=A
    simp at A
    refine Zz 10 ?_;exact fo_
   have d:=A;simp at A
   refine Zz 6 ?_;refine aE_ 4 ((ub)||(b==[])) (λr=>[(0,.agg (Ax.cells (Ax.mk k Z (Con.mk kl L O hl al cl pl) (Con.mk M J P K C G H) ad cap W T a b)).toArray),(1,zp_ e 0),(2,.bool false),(11,.bool false),(12,zp_ e 0),(13,i4_ k),(14,.pointer (some (rad (some ⟨0,0,none⟩) (k.toNat*7)))),(15,.agg Pu),(3,zp_ B 0),(50,.bool true),(57,.bool r)]) ?_ λa3 m=>?_
   .cases ub
    .refine Zz 5 ?_;refine F_ (dR_ rfl rfl) rfl λa8 V=>Zz 4 ?_
     exact met (zm (jof rfl V))
    exact hX_
   refine Zz 3 ?_;exact met ⟨rfl,rfl,rfl,rfl,rfl,rfl,rfl,rfl,rfl,(z_ rfl (jat d m)),trivial⟩
  refine Zz 1 ?_;refine aE_ 7 ((((((((((((ul)||(Con.empty (.mk kl L O hl al cl pl))))&&(((I)||(Con.empty (.mk M J P K C G H))))))&&(((S)||(T==[])))))&&(((U)||(a==[])))))&&(((ub)||(b==[])))))&&(decide (X<=(W.length:Int)))) (λr=>[(0,.agg (Ax.cells (Ax.mk k Z (Con.mk kl L O hl al cl pl) (Con.mk M J P K C G H) ad cap W T a b)).toArray),(1,zp_ e 0),(2,.bool false),(11,.bool false),(12,zp_ e 0),(13,i4_ k),(14,.pointer (some (rad (some ⟨0,0,none⟩) (k.toNat*7)))),(15,.agg Pu),(3,zp_ B 0),(66,.bool r)]) ?_ λa3 m=>?_
  .cases a4
   .have d:=y
    simp at y
    refine Zz 9 ?_;exact fo_
   have d:=y;simp at y
   refine Zz 11 ?_;refine F_ (er_ rfl rfl) rfl λa8 V=>Zz 3 ?_
   exact met ⟨rfl,rfl,rfl,rfl,rfl,rfl,rfl,rfl,rfl,(z_ rfl (jat d V)),trivial⟩
  refine Zz 1 ?_;refine aE_ 7 ((((((((((((((ul)||(Con.empty (.mk kl L O hl al cl pl))))&&(((I)||(Con.empty (.mk M J P K C G H))))))&&(((S)||(T==[])))))&&(((U)||(a==[])))))&&(((ub)||(b==[])))))&&(decide (X<=(W.length:Int)))))&&(decide ((W.length:Int)<=Y))) (λr=>[(0,.agg (Ax.cells (Ax.mk k Z (Con.mk kl L O hl al cl pl) (Con.mk M J P K C G H) ad cap W T a b)).toArray),(1,zp_ e 0),(2,.bool false),(11,.bool false),(12,zp_ e 0),(13,i4_ k),(14,.pointer (some (rad (some ⟨0,0,none⟩) (k.toNat*7)))),(15,.agg Pu),(3,zp_ B 0),(74,.bool r)]) ?_ λa8 V=>?_
  .cases a3
   .have d:=m
    simp at m
    refine Zz 9 ?_;exact fo_
   have d:=m;simp at m
   refine Zz 11 ?_;refine F_ (dN_ rfl rfl) rfl λr_10 a2=>Zz 3 ?_
   exact met ⟨rfl,rfl,rfl,rfl,rfl,rfl,rfl,rfl,rfl,(z_ rfl (jat d a2)),trivial⟩
  refine Zz 4 ?_;exact ac_ results113 () (z_ rfl (by unfold Ax.shaped;rw[yag_ (by simp only[not_or];omega)];simp only[b3];exact V.symm)) (.refl _) zt
 simp at a0
 refine Zz 7 ?_;exact ac_ results113 () (z_ rfl (by unfold Ax.shaped;rw[yaq_ (by simpa using a0)])) (.refl _) zt
theorem pn (s:Str):(((if bg_ s then 0 else 20):Int) != 0)=!bg_ s:=by grind
theorem yp_ (x:Ax) (F:x.ok) (u:Use):Tri prog 114 #[x.val,.agg u.cells.toArray] [] [x.memF] (λ_:Unit=>.bool (x.namedU u)) (λ_=>[]) (λ_=>[]):=by
 obtain⟨k,Z,⟨kl,Y,ll,hl,al,cl,pl⟩,⟨kr,V,lr,X,M,Q,T⟩,ad,cap,m,G,a,b⟩:=x;obtain⟨ul,U,E,C,ub,um,W⟩:=u;have S:=F.len;have P:=F.cap;dsimp only at S P;refine j_ func114 rfl rfl ntmps114 rfl λv_1=>?_;refine Zz 2 ?_;refine L_ rfl rfl λB=>L_ rfl rfl λJ=>Zz 9 ?_
 let Pu:Array Value:=#[.bool ul,.bool U,.bool E,.bool C,.bool ub,i4_ um,i4_ W];refine aE_ 5 ((E)&&(!(bN_ G))) (λr=>[(0,.agg (Ax.cells (Ax.mk k Z (Con.mk kl Y ll hl al cl pl) (Con.mk kr V lr X M Q T) ad cap m G a b)).toArray),(1,.agg Pu),(2,zp_ B 0),(3,zp_ J 0),(4,.bool false),(14,.bool r)]) ?_ λr_1 I=>?_
 .cases E
  .refine Zz 7 ?_;exact met ⟨rfl,rfl,rfl,rfl,rfl,(z_ rfl (jaf rfl)),trivial⟩
  refine Zz 5 ?_;refine aq_ (hM_ _) rfl (.refl _) zt rfl λN A=>ar_ rfl rfl (d_ (aK_ rfl) rfl (Zz 3 ?_))
  exact met ⟨rfl,rfl,rfl,rfl,rfl,(z_ rfl (jat rfl (jn A))),trivial⟩
 refine Zz 1 ?_;refine aE_ 9 ((((E)&&(!(bN_ G))))||(((C)&&(((if bg_ a then 0 else 20):Int) != 0)))) (λr=>[(0,.agg (Ax.cells (Ax.mk k Z (Con.mk kl Y ll hl al cl pl) (Con.mk kr V lr X M Q T) ad cap m G a b)).toArray),(1,.agg Pu),(2,zp_ B 0),(3,zp_ J 0),(4,.bool false),(24,.bool r)]) ?_ λN A=>?_
 .cases r_1
  .have d:=I
   refine Zz 6 ?_;refine aE_ 5 ((C)&&(((if bg_ a then 0 else 20):Int) != 0)) (λr=>[(0,.agg (Ax.cells (Ax.mk k Z (Con.mk kl Y ll hl al cl pl) (Con.mk kr V lr X M Q T) ad cap m G a b)).toArray),(1,.agg Pu),(2,zp_ B 0),(3,zp_ J 0),(4,.bool false),(15,.bool false),(23,.bool r)]) ?_ λO e=>?_
   .cases C
    .refine Zz 8 ?_;exact met ⟨rfl,rfl,rfl,rfl,rfl,rfl,(z_ rfl (jaf rfl)),trivial⟩
    refine Zz 5 ?_;refine f_ (dy_ _ F.a) rfl (.refl _) zt rfl λ_=>ar_ rfl rfl (F_ (cq_ rfl rfl) rfl λK y=>Zz 4 ?_)
    exact met ⟨rfl,rfl,rfl,rfl,rfl,rfl,(z_ rfl (jat rfl y)),trivial⟩
   refine Zz 3 ?_;exact met (zm (jof d e))
  have d:=I;refine Zz 11 ?_;exact met ⟨rfl,rfl,rfl,rfl,rfl,(z_ rfl (jot d)),trivial⟩
 refine Zz 1 ?_;refine aE_ 9 ((((((E)&&(!(bN_ G))))||(((C)&&(((if bg_ a then 0 else 20):Int) != 0)))))||(((ub)&&(((if bg_ b then 0 else 20):Int) != 0)))) (λr=>[(0,.agg (Ax.cells (Ax.mk k Z (Con.mk kl Y ll hl al cl pl) (Con.mk kr V lr X M Q T) ad cap m G a b)).toArray),(1,.agg Pu),(2,zp_ B 0),(4,.bool false),(34,.bool r)]) ?_ λO e=>?_
 .cases N
  .have d:=A
   refine Zz 6 ?_;refine aE_ 5 ((ub)&&(((if bg_ b then 0 else 20):Int) != 0)) (λr=>[(0,.agg (Ax.cells (Ax.mk k Z (Con.mk kl Y ll hl al cl pl) (Con.mk kr V lr X M Q T) ad cap m G a b)).toArray),(1,.agg Pu),(2,zp_ B 0),(4,.bool false),(25,.bool false),(33,.bool r)]) ?_ λK y=>?_
   .cases ub
    .refine Zz 8 ?_;exact met ⟨rfl,rfl,rfl,rfl,rfl,(z_ rfl (jaf rfl)),trivial⟩
    refine Zz 5 ?_;refine f_ (dy_ _ F.b) rfl (.refl _) zt rfl λ_=>ar_ rfl rfl (F_ (cq_ rfl rfl) rfl λr_5 H=>Zz 4 ?_)
    exact met ⟨rfl,rfl,rfl,rfl,rfl,(z_ rfl (jat rfl H)),trivial⟩
   refine Zz 3 ?_;exact met (zm (jof d y))
  have d:=A;refine Zz 11 ?_;exact met ⟨rfl,rfl,rfl,rfl,(z_ rfl (jot d)),trivial⟩
 refine Zz 2 ?_;cases O
 .refine Zz 13 ?_;refine bF_ [(36,.slice ad m.length cap),(37,i4_ m.length),(38,i4_ ((0:Nat):Int))] zl ?_;refine bY_ (ι:={q:Nat // q<=m.length/\(m.take q).all bN_=true}) (λi=>[(36,.slice ad m.length cap),(37,i4_ m.length),(38,i4_ i.1)]) (λ_=>_) (λ_=>_) (λi=>m.length - i.1) ⟨0,by simp⟩ ?_;rintro ⟨i,hk⟩;refine bF_ [(36,.slice ad m.length cap),(37,i4_ m.length),(38,i4_ i)] zl ?_;refine Zj 2 (λy=>?_) λy=>?_
  .refine Zz 12 ?_
   exact ac_ results114 () (z_ rfl (by have hf:m.all bN_=true:=(by have:=hk.2;rwa [yac_ zaa_]at this);unfold Ax.namedU;simp only[pn]at e;simp only[hf,e];rfl)) (.refl _) zt
  have L:i<m.length:=by omega
  obtain⟨q,hp⟩:∃ q,m[i]? = some q:=⟨_,yaa_ L⟩;refine Zz 10 ?_;refine d_ (P_ n_ D_ rfl rfl (λv _ h=>av_ (n:=1) an_ zae_ (h.1.2.2) hp) zaa_ zah_) rfl ?_;refine Zz 7 ?_;refine aq_ (hM_ _) rfl (.refl _) zt rfl λK H=>d_ (aK_ rfl) rfl (Zz 2 ?_)
  cases K
  .refine Zz 7 ?_;exact ac_ results114 () (z_ rfl (by have hf:m.all bN_=false:=ycv_.2 ⟨q,yab_ hp,by simp[*]⟩;unfold Ax.namedU;simp only[hf,Bool.and_false])) (.refl _) zt
  refine Zz 8 ?_;exact w_ ⟨i+1,L,by rw[yau_,hp];simp only[ybL_,ycU_,hk.2];simp[*]⟩ zar_ zl (.refl _) zh
 refine Zz 7 ?_;exact ac_ results114 () (z_ rfl (by unfold Ax.namedU;simp only[pn]at e;simp only[e];rfl)) (.refl _) zt
theorem Ax.shaped_kind {x:Ax} (h:x.shaped=true):1<=x.kind/\x.kind<=9:=by
  grind[Ax.shaped]
theorem gB_ {G:Prop} (h:G:=by
 refine Zz 9 ?_;exact ed_):G:=h
theorem fn_ {G:Prop} (h:G:=by
 refine Zz 7 ?_;exact ed_):G:=h
theorem nY_ {G:Prop} (h:G:=by
 refine aq_ (dU_ _ (.mk J H K I E F G) (yad_ _) B.right) rfl (.refl _) (λv _ h=>⟨h.1.2.1,trivial⟩) rfl λm Q=>Zz 2 ?_
 exact gC_):G:=h
theorem nZ_ {G:Prop} (h:G:=by
 refine Zz 11 ?_;refine aq_ (dU_ _ (.mk J H K I E F G) (yad_ _) B.right) rfl (.refl _) (λv _ h=>⟨h.1.2.1,trivial⟩) rfl λm e=>Zz 2 ?_
 exact gC_):G:=h
theorem kh_ {G:Prop} (h:G:=by
 refine aq_ (dU_ _ (.mk J H K I E F G) (yad_ _) B.right) rfl (.refl _) (λv _ h=>⟨h.1.2.1,trivial⟩) rfl λm A=>Zz 2 ?_
 exact gC_):G:=h
theorem oa_ {G:Prop} (h:G:=by
 cases m
 .have C:=y
  refine Zz 5 ?_;refine aq_ (dU_ _ (.mk J H K I E F G) (yad_ _) B.right) rfl (.refl _) (λv _ h=>⟨h.1.2.1,trivial⟩) rfl λr_5 A=>Zz 3 ?_
  exact met (zm (jof C A))
 have C:=y;refine Zz 6 ?_;exact met ⟨rfl,rfl,rfl,rfl,rfl,rfl,rfl,rfl,rfl,rfl,rfl,rfl,rfl,rfl,rfl,rfl,rfl,rfl,rfl,rfl,rfl,rfl,rfl,rfl,rfl,rfl,rfl,rfl,rfl,(z_ rfl (jot C)),trivial⟩):G:=h
theorem gC_ {G:Prop} (h:G:=by
 cases m
 .exact gB_
 exact fn_):G:=h
theorem ob_ {G:Prop} (h:G:=by
 refine Zj 7 (λy=>?_) λy=>?_
 .refine Zj 6 (λe=>?_) λe=>?_
  .refine Zj 5 (λA=>?_) λA=>?_
   .refine Zz 12 ?_
    exact ed_
   refine Zz 8 ?_;exact nY_
  refine Zz 11 ?_;exact kh_
 exact nZ_):G:=h
theorem ed_ {G:Prop} (h:G:=by
 exact ac_ results53 () (bi_ rfl (by unfold Ax.check;simp only[d];simp_all)) (.refl _) zt):G:=h
theorem go_ (x:Ax) (B:x.ok):Tri prog 53 #[x.val] [] [x.memF,bE_] (λ_:Unit=>i4_ x.check) (λ_=>[]) (λ_=>[]):=by
 obtain⟨k,W,⟨kl,N,O,hl,al,cl,pl⟩,⟨J,H,K,I,E,F,G⟩,ad,cap,V,U,a,b⟩:=x;refine j_ func53 rfl rfl ntmps53 rfl λv_1=>?_;refine Zz 2 ?_;refine L_ rfl rfl λL=>Zz 7 ?_
 refine aq_ (vv_ ⟨k,W,(.mk kl N O hl al cl pl),(.mk J H K I E F G),ad,cap,V,U,a,b⟩) rfl (.refl _) zf rfl λr_1 hr_1=>d_ (aK_ rfl) rfl (Zz 2 ?_)
 cases r_1
 .refine Zz 7 ?_;exact ac_ results53 () (bi_ rfl (by unfold Ax.check;simp_all)) (.refl _) zt
 have hk_1:1<=k/\k<=9:=Ax.shaped_kind hr_1;obtain⟨u,hx⟩:∃ u,uE_[k.toNat]? = some u:=⟨_,yaa_ (show k.toNat<10 by omega)⟩;have d:us k=u:=by simp[us,hx]
 obtain⟨ul,ur,Z,X,ub,um,Y⟩:=u;refine Zz 7 ?_;refine d_ (db_ runUnderlying91 eH_ rfl rfl zbD_ (by show k<(10:Int);omega)) rfl ?_;refine d_ (ak_ (ad:=some ⟨0,0,none⟩) (us:=Use.cells ⟨ul,ur,Z,X,ub,um,Y⟩) isAgg90 eH_ rfl (λv _ h=>h.2.1.2.1) (Use.cells_len _) (A_ Use.cells_len hx)) rfl (C_ zeroValue90 rfl λP=>p_ 0 eH_ rfl rfl rfl rfl rfl rfl (Zz 7 ?_));refine aq_ (yp_ ⟨k,W,(.mk kl N O hl al cl pl),(.mk J H K I E F G),ad,cap,V,U,a,b⟩ B ⟨ul,ur,Z,X,ub,um,Y⟩) rfl (.refl _) zf rfl λr_2 hr_2=>d_ (aK_ rfl) rfl (Zz 2 ?_)
 cases r_2
 .exact fn_
 refine Zz 10 ?_;cases ul
 .refine Zz 10 ?_;cases ur
  .refine Zj 13 (λS=>?_) λS=>?_
   .refine Zj 7 (λM=>?_) λM=>?_
    .refine Zj 6 (λy=>?_) λy=>?_
     .refine Zj 5 (λe=>?_) λe=>?_
      .refine Zz 12 ?_
       exact ed_
      refine Zz 8 ?_;exact kh_
     exact nZ_
    refine Zz 11 ?_;refine aq_ (dU_ _ (.mk J H K I E F G) (yad_ _) B.right) rfl (.refl _) (λv _ h=>⟨h.1.2.1,trivial⟩) rfl λm y=>Zz 2 ?_
    exact gC_
   refine Zz 8 ?_;refine aq_ (dU_ _ (.mk kl N O hl al cl pl) (yad_ _) B.left) rfl (.refl _) (λv _ h=>⟨h.1.1,trivial⟩) rfl λm M=>Zz 1 ?_
   let Pu:Array Value:=#[.bool false,.bool false,.bool Z,.bool X,.bool ub,i4_ um,i4_ Y];refine aE_ 4 ((Con.bare (.mk kl N O hl al cl pl))||(Con.bare (.mk J H K I E F G))) (λr=>[(0,.agg (Ax.cells (Ax.mk k W (Con.mk kl N O hl al cl pl) (Con.mk J H K I E F G) ad cap V U a b)).toArray),(1,zp_ L 0),(2,i4_ 0),(6,.agg (Ax.cells (Ax.mk k W (Con.mk kl N O hl al cl pl) (Con.mk J H K I E F G) ad cap V U a b)).toArray),(7,.bool true),(8,.bool false),(9,zp_ L 0),(10,i4_ k),(11,.pointer (some (rad (some ⟨0,0,none⟩) (k.toNat*7)))),(12,.agg Pu),(3,zp_ P 0),(13,.agg (Ax.cells (Ax.mk k W (Con.mk kl N O hl al cl pl) (Con.mk J H K I E F G) ad cap V U a b)).toArray),(14,.agg Pu),(15,.bool true),(16,.bool false),(17,zp_ P 0),(18,.bool false),(25,zp_ P 1),(26,.bool false),(33,zp_ L 0),(34,i4_ k),(36,.bool true),(35,.bool true),(44,.bool r)]) ?_ λT y=>?_
   .cases m
    .have C:=M
     refine Zz 5 ?_;refine aq_ (dU_ _ (.mk J H K I E F G) (yad_ _) B.right) rfl (.refl _) (λv _ h=>⟨h.1.2.1,trivial⟩) rfl λr_5 e=>Zz 3 ?_
     exact met (zm (jof C e))
    have C:=M;refine Zz 6 ?_;exact met ⟨rfl,rfl,rfl,rfl,rfl,rfl,rfl,rfl,rfl,rfl,rfl,rfl,rfl,rfl,rfl,rfl,rfl,rfl,rfl,rfl,rfl,rfl,rfl,(z_ rfl (jot C)),trivial⟩
   refine Zz 2 ?_;cases T
   .simp at y
    exact gB_
   simp at y
   exact fn_
  refine Zz 5 ?_;refine f_ (fh_ (.mk J H K I E F G) B.right) rfl (.refl _) (λv _ h=>⟨h.1.2.1,h.2.1,trivial⟩) rfl λ_=>Zj 6 (λS=>?_) λS=>?_
  .refine Zj 15 (λM=>?_) λM=>?_
   .exact ob_
   refine Zz 8 ?_;refine aq_ (dU_ _ (.mk kl N O hl al cl pl) (yad_ _) B.left) rfl (.refl _) (λv _ h=>⟨h.1.1,trivial⟩) rfl λm y=>Zz 1 ?_
   let Qu:Array Value:=#[.bool false,.bool true,.bool Z,.bool X,.bool ub,i4_ um,i4_ Y];refine aE_ 4 ((Con.bare (.mk kl N O hl al cl pl))||(Con.bare (.mk J H K I E F G))) (λr=>[(0,.agg (Ax.cells (Ax.mk k W (Con.mk kl N O hl al cl pl) (Con.mk J H K I E F G) ad cap V U a b)).toArray),(1,zp_ L 0),(2,i4_ 0),(6,.agg (Ax.cells (Ax.mk k W (Con.mk kl N O hl al cl pl) (Con.mk J H K I E F G) ad cap V U a b)).toArray),(7,.bool true),(8,.bool false),(9,zp_ L 0),(10,i4_ k),(11,.pointer (some (rad (some ⟨0,0,none⟩) (k.toNat*7)))),(12,.agg Qu),(3,zp_ P 0),(13,.agg (Ax.cells (Ax.mk k W (Con.mk kl N O hl al cl pl) (Con.mk J H K I E F G) ad cap V U a b)).toArray),(14,.agg Qu),(15,.bool true),(16,.bool false),(17,zp_ P 0),(18,.bool false),(25,zp_ P 1),(26,.bool true),(27,zp_ L 7),(28,.agg (Con.cells (Con.mk J H K I E F G)).toArray),(29,i4_ (Con.check (.mk J H K I E F G))),(5,i4_ (Con.check (.mk J H K I E F G))),(30,i4_ (Con.check (.mk J H K I E F G))),(31,.bool false),(33,zp_ L 0),(34,i4_ k),(36,.bool true),(35,.bool true),(44,.bool r)]) ?_ λT e=>?_
   .exact oa_
   refine Zz 2 ?_;cases T
   .simp at e
    exact gB_
   simp at e
   exact fn_
  refine Zz 10 ?_;exact ed_
 refine Zz 5 ?_;refine f_ (fh_ (.mk kl N O hl al cl pl) B.left) rfl (.refl _) (λv _ h=>⟨h.1.1,h.2.1,trivial⟩) rfl λ_=>Zj 6 (λS=>?_) λS=>?_
 .refine Zz 12 ?_
  cases ur
  .refine Zj 13 (λM=>?_) λM=>?_
   .exact ob_
   refine Zz 8 ?_;refine aq_ (dU_ _ (.mk kl N O hl al cl pl) (yad_ _) B.left) rfl (.refl _) (λv _ h=>⟨h.1.1,trivial⟩) rfl λm y=>Zz 1 ?_
   let Ru:Array Value:=#[.bool true,.bool false,.bool Z,.bool X,.bool ub,i4_ um,i4_ Y];refine aE_ 4 ((Con.bare (.mk kl N O hl al cl pl))||(Con.bare (.mk J H K I E F G))) (λr=>[(0,.agg (Ax.cells (Ax.mk k W (Con.mk kl N O hl al cl pl) (Con.mk J H K I E F G) ad cap V U a b)).toArray),(1,zp_ L 0),(2,i4_ 0),(6,.agg (Ax.cells (Ax.mk k W (Con.mk kl N O hl al cl pl) (Con.mk J H K I E F G) ad cap V U a b)).toArray),(7,.bool true),(8,.bool false),(9,zp_ L 0),(10,i4_ k),(11,.pointer (some (rad (some ⟨0,0,none⟩) (k.toNat*7)))),(12,.agg Ru),(3,zp_ P 0),(13,.agg (Ax.cells (Ax.mk k W (Con.mk kl N O hl al cl pl) (Con.mk J H K I E F G) ad cap V U a b)).toArray),(14,.agg Ru),(15,.bool true),(16,.bool false),(17,zp_ P 0),(18,.bool true),(19,zp_ L 2),(20,.agg (Con.cells (Con.mk kl N O hl al cl pl)).toArray),(21,i4_ (Con.check (.mk kl N O hl al cl pl))),(4,i4_ (Con.check (.mk kl N O hl al cl pl))),(22,i4_ (Con.check (.mk kl N O hl al cl pl))),(23,.bool false),(25,zp_ P 1),(26,.bool false),(33,zp_ L 0),(34,i4_ k),(36,.bool true),(35,.bool true),(44,.bool r)]) ?_ λT e=>?_
   .exact oa_
   refine Zz 2 ?_;cases T
   .simp at e
    exact gB_
   simp at e
   exact fn_
  refine Zz 5 ?_;refine f_ (fh_ (.mk J H K I E F G) B.right) rfl (.refl _) (λv _ h=>⟨h.1.2.1,h.2.1,trivial⟩) rfl λ_=>Zj 6 (λM=>?_) λM=>?_
  .refine Zj 15 (λy=>?_) λy=>?_
   .refine Zj 7 (λe=>?_) λe=>?_
    .refine Zj 6 (λA=>?_) λA=>?_
     .refine Zj 5 (λQ=>?_) λQ=>?_
      .refine Zz 12 ?_
       exact ed_
      refine Zz 8 ?_;refine aq_ (dU_ _ (.mk J H K I E F G) (yad_ _) B.right) rfl (.refl _) (λv _ h=>⟨h.1.2.1,trivial⟩) rfl λm hr_9=>Zz 2 ?_
      exact gC_
     refine Zz 11 ?_;exact nY_
    refine Zz 11 ?_;exact kh_
   refine Zz 8 ?_;refine aq_ (dU_ _ (.mk kl N O hl al cl pl) (yad_ _) B.left) rfl (.refl _) (λv _ h=>⟨h.1.1,trivial⟩) rfl λm e=>Zz 1 ?_
   let Su:Array Value:=#[.bool true,.bool true,.bool Z,.bool X,.bool ub,i4_ um,i4_ Y];refine aE_ 4 ((Con.bare (.mk kl N O hl al cl pl))||(Con.bare (.mk J H K I E F G))) (λr=>[(0,.agg (Ax.cells (Ax.mk k W (Con.mk kl N O hl al cl pl) (Con.mk J H K I E F G) ad cap V U a b)).toArray),(1,zp_ L 0),(2,i4_ 0),(6,.agg (Ax.cells (Ax.mk k W (Con.mk kl N O hl al cl pl) (Con.mk J H K I E F G) ad cap V U a b)).toArray),(7,.bool true),(8,.bool false),(9,zp_ L 0),(10,i4_ k),(11,.pointer (some (rad (some ⟨0,0,none⟩) (k.toNat*7)))),(12,.agg Su),(3,zp_ P 0),(13,.agg (Ax.cells (Ax.mk k W (Con.mk kl N O hl al cl pl) (Con.mk J H K I E F G) ad cap V U a b)).toArray),(14,.agg Su),(15,.bool true),(16,.bool false),(17,zp_ P 0),(18,.bool true),(19,zp_ L 2),(20,.agg (Con.cells (Con.mk kl N O hl al cl pl)).toArray),(21,i4_ (Con.check (.mk kl N O hl al cl pl))),(4,i4_ (Con.check (.mk kl N O hl al cl pl))),(22,i4_ (Con.check (.mk kl N O hl al cl pl))),(23,.bool false),(25,zp_ P 1),(26,.bool true),(27,zp_ L 7),(28,.agg (Con.cells (Con.mk J H K I E F G)).toArray),(29,i4_ (Con.check (.mk J H K I E F G))),(5,i4_ (Con.check (.mk J H K I E F G))),(30,i4_ (Con.check (.mk J H K I E F G))),(31,.bool false),(33,zp_ L 0),(34,i4_ k),(36,.bool true),(35,.bool true),(44,.bool r)]) ?_ λT A=>?_
   .cases m
    .have C:=e
     refine Zz 5 ?_;refine aq_ (dU_ _ (.mk J H K I E F G) (yad_ _) B.right) rfl (.refl _) (λv _ h=>⟨h.1.2.1,trivial⟩) rfl λr_5 Q=>Zz 3 ?_
     exact met (zm (jof C Q))
    have C:=e;refine Zz 6 ?_;exact met ⟨rfl,rfl,rfl,rfl,rfl,rfl,rfl,rfl,rfl,rfl,rfl,rfl,rfl,rfl,rfl,rfl,rfl,rfl,rfl,rfl,rfl,rfl,rfl,rfl,rfl,rfl,rfl,rfl,rfl,rfl,rfl,rfl,rfl,rfl,rfl,(z_ rfl (jot C)),trivial⟩
   refine Zz 2 ?_;cases T
   .simp at A
    exact gB_
   simp at A
   exact fn_
  refine Zz 10 ?_;exact ed_
 refine Zz 10 ?_;exact ed_
def prE:Array MapEntry:=#[⟨.int .i64 1,.func (.func 348) #[] #[],0⟩,⟨.int .i64 2,.func (.func 349) #[] #[],1⟩,⟨.int .i64 3,.func (.func 350) #[] #[],2⟩,⟨.int .i64 4,.func (.func 351) #[] #[],3⟩,⟨.int .i64 5,.func (.func 352) #[] #[],4⟩,⟨.int .i64 6,.func (.func 353) #[] #[],5⟩,⟨.int .i64 7,.func (.func 354) #[] #[],6⟩]
def prF (m:Nat):Fct:=bk_ m (.map prE 7)
def prV (m n:Nat):Value:=.agg #[.map (some m),.map (some n)]
theorem elt39:Elt prog 25 9 1 16:=fT_ iV_ (z:=.string ⟨#[]⟩) zad_ rfl zae_
theorem Az_ {b n cap:Nat} (xs:List Str) (d:Str) (G:xs.length=n) {h:Array Value} {T:TypeId} {fz:Nat×Nat} (H:∀ (j:Nat) (x:Str),xs[j]? = some x->h[j]? = some (str x)) (m:xs.length<=cap) (I:xs.length<=1000000) (k:(Lib.join xs d).length<=140737488355328) :
    Tri prog 369 #[.slice (some ⟨b,0,none⟩) n cap,str d] [(b,.cells h T fz)] [bE_] (λ_:Unit=>str (Lib.join xs d)) (λ_=>[(b,.cells h T fz)]) (λ_=>[]):=by
  subst G;refine cG_ (callable func369 rfl rfl) λv A F=>?_;have B:=(A.own _ yao_).1;have e:(xs.map λx=>(⟨x.toArray⟩:ByteArray)).map (·.data.toList)=xs:=by simp[ycK_,Function.comp_def]
  have:=Tryz.strings_Join b 0 cap (xs.map λx=>⟨x.toArray⟩) ⟨d.toArray⟩ v.w (λj x C=>by
    simp only[yaM_,ycf_]at C;obtain⟨y,E,rfl⟩:=C;simp only[World.cell?,B,ybP_];exact H j y E) (yaA_.1 B).1 zar_ (by simpa using m) (by rw[e];exact k)
  rw[e,yaC_]at this;exact this.mono λ_ _ q=>⟨q.1,q.2,.inl F.1.2.2.2.1⟩
theorem AC_ (n:Int) (m:-9223372036854775808<=n) (d:n<=9223372036854775807):Tri prog 381 #[i4_ n] [] [bE_] (λ_:Unit=>str (Lib.itoa n)) (λ_=>[]) (λ_=>[]) :=
  cG_ (callable func381 rfl rfl) λv _ h=>(Tryz.strconv_Itoa n m d v.w (xN_ h.1.2.2.2)).mono (by
    rintro e w' ⟨rfl,k,os,rfl⟩;exact⟨rfl,vO_ _ _ _,.inr (ycA_ _ _)⟩)
theorem vX_ {b n:Nat} (xs:List Str) (k:xs.length=n) {d:Array Value} {T:TypeId} {fz:Nat×Nat} (m:∀ (j:Nat) (x:Str),xs[j]? = some x->d[j]? = some (str x)) (y:xs.length<=1000000) (e:(Lib.join xs [32]).length<=140737488355328) :
    Tri prog 380 #[.slice (some ⟨b,0,none⟩) n n] [(b,.cells d T fz)] [bE_] (λ_:Unit=>str (Lib.join xs [32])) (λ_=>[(b,.cells d T fz)]) (λ_=>[]):=by
  refine j_ func380 rfl rfl ntmps380 rfl λA=>?_;refine Zz 8 ?_;refine f_ (Az_ xs [32] k m (Nat.le_of_eq k) y e) rfl (.refl _) (λv _ h=>h) rfl λ_=>Zz 4 ?_
  exact ac_ results380 () rfl (F:=[]) (.refl _) zt
theorem pr_top (c:Con) (m n:Nat) (hk:c.kind=1):Tri prog 348 #[prV m n,c.val] [] [c.memF,prF m,bE_] (λ_:Unit=>str c.text) (λ_=>[]) (λ_=>[]):=by
  obtain⟨k,nm,lo,hi,ad,cap,ps⟩:=c;simp only[Con.kind]at hk;refine j_ func348 rfl rfl ntmps348 rfl λd=>?_;refine Zz 2 ?_;refine L_ rfl rfl λe=>L_ rfl rfl λh=>Zz 9 ?_
  exact ac_ results348 () (fK_ rfl zaM_) (.refl _) zt
theorem xM_ (c:Con) (m n:Nat) (hk:c.kind=2):Tri prog 349 #[prV m n,c.val] [] [c.memF,prF m,bE_] (λ_:Unit=>str c.text) (λ_=>[]) (λ_=>[]):=by
  obtain⟨k,nm,lo,hi,ad,cap,ps⟩:=c;simp only[Con.kind]at hk;refine j_ func349 rfl rfl ntmps349 rfl λd=>?_;refine Zz 2 ?_;refine L_ rfl rfl λe=>L_ rfl rfl λh=>Zz 9 ?_
  exact ac_ results349 () (fK_ rfl zaM_) (.refl _) zt
theorem zR_ (c:Con) (m n:Nat) (hk:c.kind=3):Tri prog 350 #[prV m n,c.val] [] [c.memF,prF m,bE_] (λ_:Unit=>str c.text) (λ_=>[]) (λ_=>[]):=by
  obtain⟨k,nm,lo,hi,ad,cap,ps⟩:=c;simp only[Con.kind]at hk;refine j_ func350 rfl rfl ntmps350 rfl λd=>?_;refine Zz 2 ?_;refine L_ rfl rfl λe=>L_ rfl rfl λh=>Zz 11 ?_
  exact ac_ results350 () (fK_ rfl zaM_) (.refl _) zt
theorem uV_ (c:Con) (m n:Nat) (hk:c.kind=4) (hl:c.name.length<=24):Tri prog 351 #[prV m n,c.val] [] [c.memF,prF m,bE_] (λ_:Unit=>str c.text) (λ_=>[]) (λ_=>[]):=by
  obtain⟨k,nm,lo,hi,ad,cap,ps⟩:=c;simp only[Con.kind]at hk;refine j_ func351 rfl rfl ntmps351 rfl λd=>?_;simp only[Con.name]at hl;refine Zz 2 ?_;refine L_ rfl rfl λh=>L_ rfl rfl λe=>Zz 7 ?_
  refine d_ (cP_ rfl rfl (by simp[Con.name];omega)) rfl ?_;refine d_ (cP_ rfl rfl (by simp[Con.name];omega)) rfl ?_;refine Zz 4 ?_;exact ac_ results351 () (fK_ rfl zaM_) (.refl _) zt
theorem nX_ {G:Prop} (h:G:=by
 exact ac_ results379 () (fK_ rfl (by unfold Con.operand;first|exact (yaq_ zaf_).symm|exact (yag_ zaf_).symm)) (.refl _) zt):G:=h
theorem uU_ (c:Con) (m n:Nat) (hl:c.text.length<=100000) (e:Tri prog 307 #[prV m n,c.val] [] [c.memF,prF m,bE_] (λ_:Unit=>str c.text) (λ_=>[]) (λ_=>[])):Tri prog 379 #[prV m n,c.val] [] [c.memF,prF m,bE_] (λ_:Unit=>str c.operand) (λ_=>[]) (λ_=>[]):=by
 obtain⟨k,nm,lo,hi,ad,cap,ps⟩:=c;refine j_ func379 rfl rfl ntmps379 rfl λx=>?_;refine Zz 2 ?_;refine L_ rfl rfl λA=>L_ rfl rfl λy=>Zj 8 (λd=>?_) λd=>?_
 .refine Zz 9 ?_
  refine f_ (e) rfl (.refl _) (λv _ h=>h) rfl λ_=>Zz 4 ?_
  exact nX_
 refine Zz 7 ?_;refine f_ (e) rfl (.refl _) (λv _ h=>h) rfl λ_=>?_;refine d_ (cP_ rfl rfl zac_) rfl ?_;refine d_ (cP_ rfl rfl zac_) rfl ?_;refine Zz 4 ?_;exact nX_
theorem gM_ (c:Con) (m n:Nat) {g i:Nat} (e:di_ prog 3 (i4_ c.kind) prE.toList (some (i,.func (.func g) #[] #[]))) (A:Tri prog g #[prV m n,c.val] [] [c.memF,prF m,bE_] (λ_:Unit=>str c.text) (λ_=>[]) (λ_=>[])):Tri prog 307 #[prV m n,c.val] [] [c.memF,prF m,bE_] (λ_:Unit=>str c.text) (λ_=>[]) (λ_=>[]):=by
  obtain⟨k,nm,lo,hi,ad,cap,ps⟩:=c;refine j_ func307 rfl rfl ntmps307 rfl λd=>?_;refine Zz 2 ?_;refine L_ rfl rfl λy=>L_ rfl rfl λx=>Zz 9 ?_
  refine d_ (ef_ ds_ rfl rfl (λv _ h=>h.2.1.2) (aZ_ o_) e) rfl (Zz 2 ?_);refine O_ (A) rfl rfl (.refl _) zf rfl λ_=>Zz 4 ?_
  exact ac_ results307 () rfl (.refl _) zt
theorem BP_:gr_ prog 347 [(0,1),(1,1)] [.map none,.map none]:=⟨_,zeroValue347,runUnderlying347,λw=>by simp[sizeOf344,sizeOf345]⟩
theorem rE_:Tri prog 306 #[] [] [] (λq:Nat×Nat=>prV q.1 q.2) (λ_=>[]) (λq=>[prF q.1]):=by
  refine j_ func306 rfl rfl ntmps306 rfl λm=>?_;refine Zz 2 ?_;refine C_ zeroValue347 rfl λx=>Zz 4 ?_
  refine bt_ rfl λh=>aR_ 0 (.inl rfl) ds_ rfl rfl rfl rfl (aZ_ o_) (aw_ o_ rfl) (aR_ 0 (.inl rfl) ds_ rfl rfl rfl rfl (aZ_ o_) (aw_ o_ rfl) (aR_ 0 (.inl rfl) ds_ rfl rfl rfl rfl (aZ_ o_) (aw_ o_ rfl) (aR_ 0 (.inl rfl) ds_ rfl rfl rfl rfl (aZ_ o_) (aw_ o_ rfl) (aR_ 0 (.inl rfl) ds_ rfl rfl rfl rfl (aZ_ o_) (aw_ o_ rfl) (aR_ 0 (.inl rfl) ds_ rfl rfl rfl rfl (aZ_ o_) (aw_ o_ rfl) (aR_ 0 (.inl rfl) ds_ rfl rfl rfl rfl (aZ_ o_) (aw_ o_ rfl) (Zz 1 ?_)))))))
  refine bt_ rfl λk=>aR_ 0 (.inl rfl) cJ_ rfl rfl rfl rfl (aZ_ o_) (aw_ o_ rfl) (aR_ 0 (.inl rfl) cJ_ rfl rfl rfl rfl (aZ_ o_) (aw_ o_ rfl) (aR_ 0 (.inl rfl) cJ_ rfl rfl rfl rfl (aZ_ o_) (aw_ o_ rfl) (aR_ 0 (.inl rfl) cJ_ rfl rfl rfl rfl (aZ_ o_) (aw_ o_ rfl) (aR_ 0 (.inl rfl) cJ_ rfl rfl rfl rfl (aZ_ o_) (aw_ o_ rfl) (aR_ 0 (.inl rfl) cJ_ rfl rfl rfl rfl (aZ_ o_) (aw_ o_ rfl) (aR_ 0 (.inl rfl) cJ_ rfl rfl rfl rfl (aZ_ o_) (aw_ o_ rfl) (aR_ 0 (.inl rfl) cJ_ rfl rfl rfl rfl (aZ_ o_) (aw_ o_ rfl) (aR_ 0 (.inl rfl) cJ_ rfl rfl rfl rfl (aZ_ o_) (aw_ o_ rfl) (Zz 1 ?_)))))))))
  refine d_ (y_ BP_ rfl rfl) rfl (p_ 2 sizeOf347 rfl rfl rfl rfl rfl rfl (Zz 3 ?_));refine hK_ 1 rfl ?_;exact dk_ (h,k) (λa v d e=>dm_ (us:=[_,_]) 1 results306 isAgg347 sizeOf347 rfl rfl rfl a v d e) (.refl _) zf
theorem pr_and (c:Con) (m n:Nat) (A:c.kind=5) (J:2<=c.parts.length/\c.parts.length<=8) (hl:(Lib.join (c.parts.map Con.operand) [32,97,110,100,32]).length<=140737488355328) (x:∀ p∈c.parts,Tri prog 379 #[prV m n,p.val] [] [p.memF,prF m,bE_] (λ_:Unit=>str p.operand) (λ_=>[]) (λ_=>[])):Tri prog 352 #[prV m n,c.val] [] [c.memF,prF m,bE_] (λ_:Unit=>str c.text) (λ_=>[]) (λ_=>[]):=by
 obtain⟨k,nm,lo,hi,ad,cap,ps⟩:=c;simp only[Con.kind,Con.parts]at A J hl x;refine j_ func352 rfl rfl ntmps352 rfl λN=>?_;refine Zz 2 ?_;refine L_ rfl rfl λd=>L_ rfl rfl λL=>Zz 18 ?_
 refine bF_ [(2,zp_ d 0),(5,.slice none 0 0),(9,.slice ad ps.length cap),(10,i4_ ps.length),(11,i4_ ((0:Nat):Int))] zl ?_;refine bY_ (ι:={q:Nat×Value×Hp // q.1<=ps.length/\at_ 9 1 q.2.1 q.1 ((ps.take q.1).flatMap λp=>aa_ p.operand) q.2.2}) (λq=>[(2,zp_ d 0),(5,q.1.2.1),(9,.slice ad ps.length cap),(10,i4_ ps.length),(11,i4_ q.1.1)]) (λq=>_::_::q.1.2.2) (λ_=>_) (λq=>ps.length - q.1.1) ⟨(0,.slice none 0 0,[]),by simp,at_.nil _ _⟩ ?_;rintro ⟨⟨i,sv,Hr⟩,hk⟩;dsimp only at hk;refine bF_ [(2,zp_ d 0),(5,sv),(9,.slice ad ps.length cap),(10,i4_ ps.length),(11,i4_ i)] zl ?_;refine Zj 2 (λH=>?_) λH=>?_
 .obtain rfl:i=ps.length:=by omega
  obtain⟨g,cp,cur,rfl,rfl,K,O,P,C⟩:=hk.2.some zaa_;rw[ybB_]at C;refine Zz 9 ?_;refine f_ (Az_ (ps.map Con.operand) [32,97,110,100,32] zai_ (qp_ (n:=ps.length) (by rw[C,List.flatMap_map])) (by simpa using K) zar_ hl) rfl (@List.perm_append_comm _ [_,_] _) zf rfl λ_=>?_;refine Zz 4 ?_;exact ac_ results352 () (fK_ rfl (by rw[Con.text_eq];simp[Con.kind,Con.parts,A])) (.refl _) zt
 have e:i<ps.length:=by omega
 obtain⟨p,I⟩:∃ p,ps[i]? = some p:=⟨_,yaa_ e⟩;have B:p∈ps:=yab_ I;refine Zz 10 ?_;refine d_ (P_ af_ t_ rfl rfl (λv _ h=>av_ (n:=5) Con.cells_len zae_ (((Con.mem_iff (.mk k nm lo hi ad cap ps) v).1 h.1).1) I) zaa_ zah_) rfl ?_;refine d_ (ak_ (ad:=ad) (us:=p.cells) ae_ t_ rfl (λv _ h=>((Con.mem_iff (.mk k nm lo hi ad cap ps) v).1 h.1).1) (Con.cells_len _) (A_ Con.cells_len I)) rfl (C_ ba_ rfl λQ=>fB_ 0 t_ rfl rfl rfl rfl (Zz 5 ?_));refine d_ (cX_ 0 ae_ t_ rfl rfl) rfl (f_ (x p B) rfl (.refl _) (λv _ h=>⟨Con.mem_part (c:=(.mk k nm lo hi ad cap ps)) h.1 B,h.2.1,h.2.2.1,trivial⟩) rfl λ_=>B_ n_ D_ V_ rfl rfl rfl rfl rfl rfl λM=>?_);refine aH_ elt39 hk.2 rfl rfl (@List.perm_append_comm _ [_,_,_,_] _) rfl (bz_ 0 rfl) (jK_ rfl) zal_ zaa_ rfl λy G E=>?_;refine u_ (@List.perm_append_comm _ _ [_,_,_,_]) (Zz 8 ?_);exact w_ ⟨(i+1,y,G),e,by rw[Con.take_snoc I,ybu_];exact E⟩ zar_ zl (F:=[_,_]) (@List.perm_append_comm _ [_,_] _) zh
theorem Cm_ (c:Con) (m n:Nat) (y:c.kind=6) (x:c.parts.length=1) (hl:c.text.length<=140737488355328) (e:∀ p∈c.parts,Tri prog 379 #[prV m n,p.val] [] [p.memF,prF m,bE_] (λ_:Unit=>str p.operand) (λ_=>[]) (λ_=>[])):Tri prog 353 #[prV m n,c.val] [] [c.memF,prF m,bE_] (λ_:Unit=>str c.text) (λ_=>[]) (λ_=>[]):=by
  obtain⟨k,nm,lo,hi,ad,cap,ps⟩:=c;simp only[Con.kind,Con.parts]at y x e;obtain⟨p,rfl⟩:=yce_.1 x;have A:[p][0]? = some p:=rfl;have d:p∈[p]:=yam_.2 rfl;have B:(Con.mk k nm lo hi ad cap [p]).text=Lib.join [[115,111,109,101],nm,p.operand] [32]:=by rw[Con.text_eq];simp[Con.kind,Con.parts,Con.name,y]
  rw[B]at hl;refine j_ func353 rfl rfl ntmps353 rfl λC=>?_;refine Zz 2 ?_;refine L_ rfl rfl λF=>L_ rfl rfl λE=>Zz 5 ?_
  refine G_ 4 [0,1,2,3,4,5,6] zk zs (Zz 5 ?_);refine N_ rfl (P_ af_ t_ rfl rfl (λv _ h=>av_ (n:=5) Con.cells_len zae_ (((Con.mem_iff (.mk k nm lo hi ad cap [p]) v).1 h.1).1) A) zaa_ zah_) rfl ?_;refine N_ rfl (ak_ (ad:=ad) (us:=p.cells) ae_ t_ rfl (λv _ h=>((Con.mem_iff (.mk k nm lo hi ad cap [p]) v).1 h.1).1) (Con.cells_len _) (A_ Con.cells_len A)) rfl (bX_ (m_ 7 rfl zk (f_ (e p d) rfl (.refl _) (λv _ h=>⟨Con.mem_part (c:=.mk k nm lo hi ad cap [p]) h.1 d,h.2.1,h.2.2.1,trivial⟩) rfl λ_=>Zz 3 ?_)));refine m_ 8 rfl zk (B_ n_ D_ V_ rfl rfl rfl rfl rfl rfl λG=>Zz 3 ?_);refine m_ 9 rfl zk (f_ (vX_ [[115,111,109,101],nm,p.operand] rfl (wg_ _) zai_ hl) rfl (.refl _) zf rfl λ_=>Zz 3 ?_);refine G_ 0 [10] zk zs (Zz 5 ?_);exact ac_ results353 () (fK_ rfl B.symm) (.refl _) zt
theorem Cl_ (c:Con) (m n:Nat) (d:c.kind=7) (x:c.ok) (hl:c.text.length<=140737488355328):Tri prog 354 #[prV m n,c.val] [] [c.memF,prF m,bE_] (λ_:Unit=>str c.text) (λ_=>[]) (λ_=>[]):=by
  obtain⟨k,nm,lo,hi,ad,cap,ps⟩:=c;simp only[Con.kind]at d;obtain⟨_,_,_,y,h,v,e,_⟩:=x;have A:(Con.mk k nm lo hi ad cap ps).text=Lib.join [nm,[105,110],Lib.itoa lo,[116,111],Lib.itoa hi] [32]:=by rw[Con.text_eq];simp[Con.kind,Con.name,Con.lo,Con.hi,d]
  rw[A]at hl;refine j_ func354 rfl rfl ntmps354 rfl λB=>?_;refine Zz 2 ?_;refine L_ rfl rfl λE=>L_ rfl rfl λC=>Zz 5 ?_
  refine G_ 5 [0,1,2,3,5,6] zk zs (Zz 7 ?_);refine m_ 4 rfl zk (f_ (AC_ _ y h) rfl (.refl _) zf rfl λ_=>Zz 3 ?_);refine m_ 7 rfl zk (f_ (AC_ _ v e) rfl (.refl _) zf rfl λ_=>Zz 3 ?_);refine m_ 8 rfl zk (B_ n_ D_ V_ rfl rfl rfl rfl rfl rfl λF=>Zz 3 ?_);refine m_ 9 rfl zk (f_ (vX_ [nm,[105,110],Lib.itoa lo,[116,111],Lib.itoa hi] rfl (wg_ _) zai_ hl) rfl (.refl _) zf rfl λ_=>Zz 3 ?_);refine G_ 0 [10] zk zs (Zz 5 ?_);exact ac_ results354 () (fK_ rfl A.symm) (.refl _) zt
theorem Ck_ (m n:Nat):∀ (d:Nat) (c:Con),c.sz<=d->c.sz<=64->c.ok->c.fine->Tri prog 307 #[prV m n,c.val] [] [c.memF,prF m,bE_] (λ_:Unit=>str c.text) (λ_=>[]) (λ_=>[]):=by
 intro d
 induction d with
 | zero=>grind[Con.sz_pos]
 | succ d ih =>
   intro c C B e x;have F:=Con.fields x;have hl:=Con.text_len _ c (yad_ _) e x
   have h:∀ p∈c.parts,Tri prog 379 #[prV m n,p.val] [] [p.memF,prF m,bE_] (λ_:Unit=>str p.operand) (λ_=>[]) (λ_=>[]):=λp v=>by
     have G:=Con.sz_part v;have hl:=Con.text_len _ p (yad_ _) (Con.ok_part e v) (Con.fine_part x v)
     grind[uU_,Con.ok_part,Con.fine_part]
   have y:=F.k1;have A:=F.k7;have hm:=F.mo;have k:=F.le;have hk:c.kind=1\/c.kind=2\/c.kind=3\/c.kind=4\/c.kind=5\/c.kind=6\/c.kind=7:=by omega
   rcases hk with hk|hk|hk|hk|hk|hk|hk
   . exact gM_ c m n zaI_ (pr_top c m n hk)
   . exact gM_ c m n zaI_ (xM_ c m n hk)
   . exact gM_ c m n zaI_ (zR_ c m n hk)
   . exact gM_ c m n zaI_ (uV_ c m n hk F.nm)
   . have E:c.text=Lib.join (c.parts.map Con.operand) [32,97,110,100,32]:=by grind[Con.text_eq]
     rw[hk]at hm k;simp[nd,ei_]at hm k
     exact gM_ c m n zaI_ (pr_and c m n hk ⟨by omega,by omega⟩ zak_ h)
   . rw[hk]at hm k
     simp[nd,ei_]at hm k
     exact gM_ c m n zaI_ (Cm_ c m n hk zaa_ zaa_ h)
   . exact gM_ c m n zaI_ (Cl_ c m n hk e zaa_)
theorem tj_ (c:Con) (h:c.ok):Tri prog 257 #[c.val] [] [c.memF,bE_] (λ_:Unit=>.tuple #[str c.textN,i4_ c.check]) (λ_=>[]) (λ_=>[]):=by
 obtain⟨k,nm,lo,hi,ad,cap,ps⟩:=c;refine j_ func257 rfl rfl ntmps257 rfl λv=>?_;refine Zz 2 ?_;refine L_ rfl rfl λx=>Zz 8 ?_
 refine f_ (fh_ (.mk k nm lo hi ad cap ps) h) rfl (.refl _) zf rfl λ_=>Zj 6 (λd=>?_) λd=>?_
 .obtain⟨e,m⟩:=Con.check_zero d
  refine Zz 7 ?_;refine G_ 4 [1] zk zs (Zz 2 ?_);refine m_ 0 rfl zk (f_ (rE_) rfl (.refl _) zt rfl λq=>Zz 3 ?_);refine m_ 2 rfl zk (f_ (Ck_ q.1 q.2 _ (.mk k nm lo hi ad cap ps) (yad_ _) m h e) rfl (.refl _) zf rfl λ_=>Zz 3 ?_);refine G_ 0 [3,4] zk zs (Zz 6 ?_);exact eI_ results257 () rfl rfl (by simp[Con.textN, *]<;>rfl) (.refl _) zt
 refine Zz 11 ?_;exact eI_ results257 () rfl rfl (by simp[Con.textN, *]<;>rfl) (.refl _) zt
theorem rF_ (c:Con) (d:c.ok):Tri prog 179 #[c.val] [] [c.memF,bE_] (λ_:Unit=>str c.textN) (λ_=>[]) (λ_=>[]):=by
  obtain⟨k,nm,lo,hi,ad,cap,ps⟩:=c;refine j_ func179 rfl rfl ntmps179 rfl λe=>?_;refine Zz 2 ?_;refine L_ rfl rfl λm=>Zz 6 ?_
  refine f_ (tj_ (.mk k nm lo hi ad cap ps) d) rfl (.refl _) (λv _ h=>h) rfl λ_=>Zz 14 ?_
  exact ac_ results179 () rfl (.refl _) zt
theorem nW_ {G:Prop} (h:G:=by
 exact ac_ results90 () (fK_ rfl (by unfold Con.operandN;simp only[Con.kind,Con.name]at *;simp[*])) (.refl _) zt):G:=h
theorem pd_ (c:Con) (d:c.ok):Tri prog 90 #[c.val] [] [c.memF,bE_] (λ_:Unit=>str c.operandN) (λ_=>[]) (λ_=>[]):=by
 obtain⟨k,nm,lo,hi,ad,cap,ps⟩:=c;refine j_ func90 rfl rfl ntmps90 rfl λm=>?_;refine Zz 2 ?_;refine L_ rfl rfl λx=>Zj 8 (λe=>?_) λe=>?_
 .refine Zz 8 ?_
  refine f_ (rF_ (.mk k nm lo hi ad cap ps) d) rfl (.refl _) (λv _ h=>h) rfl λ_=>Zz 4 ?_
  exact nW_
 refine Zz 6 ?_;refine f_ (rF_ (.mk k nm lo hi ad cap ps) d) rfl (.refl _) (λv _ h=>h) rfl λ_=>?_;refine d_ (cP_ rfl rfl zax_) rfl ?_;refine d_ (cP_ rfl rfl zax_) rfl ?_;refine Zz 4 ?_;exact nW_
theorem cI_ (s:Str) (e:s.length<=140737488351232) :
    Fn0 prog 92 #[str s] (str ([123]++s++[125])):=by
  refine j_ func92 rfl rfl ntmps92 rfl λd=>?_;refine Zz 8 ?_;refine d_ (cP_ rfl rfl zar_) rfl ?_;refine d_ (cP_ rfl rfl zar_) rfl ?_;refine Zz 4 ?_;exact ac_ results92 () rfl (.refl _) zt
theorem gA_ {G:Prop} (h:G:=by
 exact ac_ results88 () (fK_ rfl (by unfold Con.atom;simp only[Con.kind,Con.name]at *;simp[*])) (.refl _) zt):G:=h
theorem co_ (c:Con) (d:c.ok):Tri prog 88 #[c.val] [] [c.memF,bE_] (λ_:Unit=>str c.atom) (λ_=>[]) (λ_=>[]):=by
 obtain⟨k,nm,lo,hi,ad,cap,ps⟩:=c;refine j_ func88 rfl rfl ntmps88 rfl λA=>?_;refine Zz 2 ?_;refine L_ rfl rfl λB=>Zj 13 (λx=>?_) λx=>?_
 .refine Zj 6 (λy=>?_) λy=>?_
  .refine Zj 6 (λm=>?_) λm=>?_
   .refine Zj 6 (λe=>?_) λe=>?_
    .refine Zz 9 ?_
     refine f_ (rF_ (.mk k nm lo hi ad cap ps) d) rfl (.refl _) (λv _ h=>h) rfl λ_=>?_;refine d_ (cP_ rfl rfl zax_) rfl ?_;refine d_ (cP_ rfl rfl zax_) rfl ?_;refine Zz 4 ?_;exact gA_
    refine Zz 8 ?_;refine f_ (cI_ nm (Con.ok_name d)) rfl (.refl _) zt rfl λ_=>Zz 4 ?_
    exact gA_
   refine Zz 12 ?_;exact gA_
  refine Zz 10 ?_;exact gA_
 refine Zz 10 ?_;exact gA_
theorem eqPc (p q:Pc) (w:World):(Op.equalIn 10000 80 p.val q.val).run prog w=.ok (decide (p=q)) w:=by
  have h:=run_equalIn_struct (P:=prog) w 9999 80 p.cells.toArray q.cells.toArray (by grind[Program.fieldsOf,underlying80]) Tryz.stoodInHeld80;refine h.trans ?_;rw[<-Pc.eqb_eq];simp only[Program.fieldsOf,gi_];exact bR_ rfl bb_ rfl rfl (eqI o_ w) (bR_ rfl W_ rfl rfl (eqS aB_ w) (bR_ rfl W_ rfl rfl (eqS aB_ w) (bR_ rfl W_ rfl rfl (eqS aB_ w) (bR_ rfl W_ rfl rfl (eqS aB_ w) (bR_ rfl W_ rfl rfl (eqS aB_ w) (bR_ rfl W_ rfl rfl (eqS aB_ w) (bR_ rfl bb_ rfl rfl (eqI o_ w) (bR_ rfl bb_ rfl rfl (eqI o_ w) (bR_ rfl bb_ rfl rfl (eqI o_ w) (jQ_ w))))))))))
theorem eqFc (p q:Fc) (w:World):(Op.equalIn 10000 104 p.val q.val).run prog w=.ok (decide (p=q)) w:=by
  have h:=run_equalIn_struct (P:=prog) w 9999 104 p.cells.toArray q.cells.toArray (by grind[Program.fieldsOf,underlying104]) Tryz.stoodInHeld104;refine h.trans ?_;rw[<-Fc.eqb_eq];simp only[Program.fieldsOf,underlying104];exact bR_ rfl bb_ rfl rfl (eqI o_ w) (bR_ rfl W_ rfl rfl (eqS aB_ w) (bR_ rfl W_ rfl rfl (eqS aB_ w) (bR_ rfl W_ rfl rfl (eqS aB_ w) (bR_ rfl bb_ rfl rfl (eqI o_ w) (bR_ rfl bb_ rfl rfl (eqI o_ w) (jQ_ w))))))
theorem wB_ (p:Pc):hV_ prog 80 p.val:=λe w=>by
 have hi:∀ (n:Int) (w:World),(Instr.checkKey e (9998+1) 3 (.int .i64 n)).run prog w=.ok () w:=λn w=>MapKept.run_checkKey (d:=.int .i64) o_ zbr_ e 9998
 have h:∀ (n:Str) (w:World),(Instr.checkKey e (9998+1) 9 (str n)).run prog w=.ok () w:=λn w=>MapKept.run_checkKey (d:=.string) aB_ zaN_ e 9998
 refine ckF (n:=9999) gi_ λf k=>?_;simp only[yal_,yat_,ybd_]at k;rcases k with rfl|rfl|rfl|rfl|rfl|rfl|rfl|rfl|rfl|rfl
 .exact⟨rfl,bb_,_,rfl,hi _⟩
 .exact⟨rfl,W_,_,rfl,h _⟩
 .exact⟨rfl,W_,_,rfl,h _⟩
 .exact⟨rfl,W_,_,rfl,h _⟩
 .exact⟨rfl,W_,_,rfl,h _⟩
 .exact⟨rfl,W_,_,rfl,h _⟩
 .exact⟨rfl,W_,_,rfl,h _⟩
 .exact⟨rfl,bb_,_,rfl,hi _⟩
 .exact⟨rfl,bb_,_,rfl,hi _⟩
 exact⟨rfl,bb_,_,rfl,hi _⟩
theorem AU_:Elt prog 69 80 10 128:=fT_ underlying69 (z:=.agg (Pc.mk 0 [] [] [] [] [] [] 0 0 0).cells.toArray) zad_ rfl zae_
theorem dA_:gr_ prog 80 [(0,1),(1,1),(2,1),(3,1),(4,1),(5,1),(6,1),(7,1),(8,1),(9,1)] [i4_ 0,str [],str [],str [],str [],str [],str [],i4_ 0,i4_ 0,i4_ 0]:=⟨_,T_,runUnderlying80,λw=>by simp[R_,D_]⟩
theorem kT_:gr_ prog 104 [(0,1),(1,1),(2,1),(3,1),(4,1),(5,1)] [i4_ 0,str [],str [],str [],i4_ 0,i4_ 0]:=⟨_,ax_,runUnderlying104,λw=>by simp[R_,D_]⟩
structure CS where
  sv:Value
  bm:Nat
  es:Array MapEntry
  clk:Nat
  Hr:Hp
def fU_ (kb:Nat) (frm:Int) (q:CS):Hp:=(kb,.cells #[.int .i64 frm,q.sv,.map (some q.bm)] 142 (0,0))::(q.bm,.map q.es q.clk)::q.Hr
structure CInv (l:List Pc) (q:CS):Prop where
  row:at_ 80 10 q.sv l.length (l.flatMap Pc.cells) q.Hr
  keys:q.es.toList.map (·.key)=l.map Pc.val
  vals:∀ x∈q.es.toList,x.val=.bool true
theorem CInv.push {l:List Pc} {p:Pc} {sv e:Value} {bm clk:Nat} {es:Array MapEntry} {Hr d:Hp} (h:CInv l ⟨sv,bm,es,clk,Hr⟩) (m:at_ 80 10 e (l.length+1) (l.flatMap Pc.cells++p.cells) d):CInv (l++[p]) ⟨e,bm,es.push ⟨p.val,.bool true,clk⟩,clk+1,d⟩:=by
 refine⟨?_,?_,?_⟩
 .grind
 .have:=h.keys
  grind
 intro x k;simp only[ybY_,yai_,yam_]at k;rcases k with k|rfl
 .exact h.vals x k
 rfl
theorem dD_ (p:Pc) {kb C:Nat} (frm:Int) (l:List Pc) (q:CS) (B:CInv l q) (N:l.length<=100000) :
    Tri prog 91 #[zp_ kb 0,.slice (some ⟨C,0,none⟩) 1 1] ((C,.cells p.cells.toArray 80 (0,0))::fU_ kb frm q) [] (λ_:{L:CS // CInv (ins frm l p) L}=>.tuple #[]) (λL=>fU_ kb frm L.1) (λ_=>[]):=by
  obtain⟨k,a,b,c,r,s,t,lo,hi,f⟩:=p;obtain⟨sv,bm,es,clk,Hr⟩:=q;refine j_ func91 rfl rfl ntmps91 rfl λP=>?_;refine Zz 8 ?_;refine bF_ [(0,zp_ kb 0),(6,.slice (some ⟨C,0,none⟩) 1 1),(7,i4_ 1),(8,i4_ ((0:Nat):Int))] zl ?_;refine bY_ (ι:={x:Nat×CS // (x.1=0/\x.2=⟨sv,bm,es,clk,Hr⟩)\/(x.1=1/\CInv (ins frm l ⟨k,a,b,c,r,s,t,lo,hi,f⟩) x.2)}) (λx=>[(0,zp_ kb 0),(6,.slice (some ⟨C,0,none⟩) 1 1),(7,i4_ 1),(8,i4_ x.1.1)]) (λx=>_::fU_ kb frm x.1.2) (λ_=>_) (λx=>1 - x.1.1) ⟨(0,⟨sv,bm,es,clk,Hr⟩),.inl ⟨rfl,rfl⟩⟩ ?_;rintro ⟨⟨i,M⟩,hk⟩;dsimp only at hk;rcases hk with⟨rfl,rfl⟩|⟨rfl,O⟩
  . refine bF_ [(0,zp_ kb 0),(6,.slice (some ⟨C,0,none⟩) 1 1),(7,i4_ 1),(8,i4_ 0)] zl ?_;refine Zj 2 (λe=>?_) λe=>?_
    . exact absurd zae_ e
    . refine Zz 10 ?_;refine d_ (ft_ H_ K_ rfl rfl zae_ zae_) rfl (Zz 1 ?_);refine C_ T_ rfl λG=>p_ 0 K_ rfl rfl rfl rfl rfl rfl (Zz 9 ?_)
      refine p_ 0 R_ rfl rfl rfl rfl rfl rfl (Zz 3 ?_)
      by_cases hm:(⟨k,a,b,c,r,s,t,lo,hi,frm⟩:Pc)∈l
      . obtain⟨j,J⟩:=(is_ gi_ (λp q w=>eqPc p q w) (⟨k,a,b,c,r,s,t,lo,hi,frm⟩:Pc) l es.toList B.keys).2 hm B.vals;refine Zz 1 ?_;refine G_ 0 [0,1,2,3,4,5,6] zk zs (Zz 5 ?_);refine N_ rfl (ef_ jZ_ rfl rfl (λv h _=>(h.own _ (yab_ (i:=3) rfl)).1) (wB_ (⟨k,a,b,c,r,s,t,lo,hi,frm⟩:Pc)) J) rfl (N_ rfl (aK_ rfl) rfl (Zz 11 ?_));exact w_ ⟨(1,⟨sv,bm,es,clk,Hr⟩),.inr ⟨rfl,by simp only[ins,yaq_ hm];exact B⟩⟩ yda_ zl (F:=[_]) (@List.perm_append_comm _ [_] _) zh
      . have J:=(is_ gi_ (λp q w=>eqPc p q w) (⟨k,a,b,c,r,s,t,lo,hi,frm⟩:Pc) l es.toList B.keys).1 hm;refine Zz 1 ?_;refine G_ 0 [0,1,2,3,4,5,6] zk zs (Zz 5 ?_);refine N_ rfl (ep_ jZ_ bC_ rfl rfl (λv h _=>(h.own _ (yab_ (i:=3) rfl)).1) (wB_ (⟨k,a,b,c,r,s,t,lo,hi,frm⟩:Pc)) J) rfl (N_ rfl (aK_ rfl) rfl (Zz 5 ?_));refine Y_ [(G,.cells #[i4_ k,str a,str b,str c,str r,str s,str t,i4_ lo,i4_ hi,i4_ frm] 80 (0,0)),(C,.cells #[i4_ k,str a,str b,str c,str r,str s,str t,i4_ lo,i4_ hi,i4_ f] 80 (0,0)),(kb,.cells #[i4_ frm,sv,.map (some bm)] 142 (0,0))] zk ?_;refine G_ 1 [0,1,2,3,4] zk (λ_ a b=>⟨Vw.sat.sub a,b⟩) (Zz 6 ?_);refine m_ 5 rfl zk (aR_ 3 (.inr rfl) jZ_ rfl rfl rfl rfl (wB_ (⟨k,a,b,c,r,s,t,lo,hi,frm⟩:Pc)) J (Zz 2 ?_));refine M_ (λ_ a b=>⟨Vw.sat.sub a,b⟩) (Zz 2 ?_);refine Y_ [(G,.cells #[i4_ k,str a,str b,str c,str r,str s,str t,i4_ lo,i4_ hi,i4_ frm] 80 (0,0))] zk ?_;refine G_ 6 [0,1,2,3,5] zk (λ_ a b=>⟨Vw.sat.sub a,b⟩) (Zz 6 ?_);refine dz_ 4 6 rfl rfl zk ?_ ?_
        . refine Zz 3 ?_;refine M_ (λ_ a b=>⟨Vw.sat.sub a,b⟩) (m_ 6 rfl zk (B_ H_ K_ T_ rfl rfl rfl rfl rfl rfl λK=>Zz 2 ?_));refine M_ (λ_ a b=>⟨Vw.sat.sub a.tail,b⟩) (m_ 7 rfl zk (aH_ (news:=Pc.cells (⟨k,a,b,c,r,s,t,lo,hi,frm⟩:Pc)) AU_ B.row rfl rfl (@List.perm_append_comm _ [_,_,_,_,_] _) rfl (bz_ 0 rfl) (jK_ rfl) zal_ zaa_ rfl λE H d=>?_));refine u_ (@List.perm_append_comm _ _ [_,_,_,_,_]) ?_;obtain⟨y,A,m,rfl,rfl,I⟩:=d.some zaa_;refine Zz 2 ?_;refine M_ (λ_ a b=>⟨Vw.sat.sub a.tail,b⟩) (G_ 1 [8,9] zk (λ_ a b=>⟨Vw.sat.sub a.tail,b⟩) (Zz 3 ?_));refine m_ 10 rfl zk (p_ 3 kJ_ rfl rfl rfl rfl rfl rfl (Zz 2 ?_));refine M_ (λ_ a b=>⟨Vw.sat.sub a.tail,b⟩) (Zz 7 ?_);exact w_ ⟨(1,⟨.slice (some ⟨y,0,none⟩) (l.length+1) A,bm,es.push ⟨Pc.val (⟨k,a,b,c,r,s,t,lo,hi,frm⟩:Pc),.bool true,clk⟩,clk+1,[(y,.cells m 80 (0,0))]⟩),.inr ⟨rfl,by simp only[ins,yag_ hm];exact B.push d⟩⟩ yda_ zl (F:=[_,_]) (@List.perm_append_comm _ [_,_] _) zh
        . refine B_ H_ K_ T_ rfl rfl rfl rfl rfl rfl λK=>Zz 2 ?_
          refine M_ (λ_ a b=>⟨Vw.sat.sub a.tail,b⟩) (m_ 4 rfl zk (Zz 3 ?_));refine M_ (λ_ a b=>⟨Vw.sat.sub a.tail,b⟩) (m_ 7 rfl zk (aH_ (news:=Pc.cells (⟨k,a,b,c,r,s,t,lo,hi,frm⟩:Pc)) AU_ B.row rfl rfl (@List.perm_append_comm _ [_,_,_,_,_] _) rfl (bz_ 0 rfl) (jK_ rfl) zal_ zaa_ rfl λE H d=>?_));refine u_ (@List.perm_append_comm _ _ [_,_,_,_,_]) ?_;obtain⟨y,A,m,rfl,rfl,I⟩:=d.some zaa_;refine Zz 2 ?_;refine M_ (λ_ a b=>⟨Vw.sat.sub a.tail,b⟩) (G_ 1 [8,9] zk (λ_ a b=>⟨Vw.sat.sub a.tail,b⟩) (Zz 3 ?_));refine m_ 10 rfl zk (p_ 3 kJ_ rfl rfl rfl rfl rfl rfl (Zz 2 ?_));refine M_ (λ_ a b=>⟨Vw.sat.sub a.tail,b⟩) (Zz 7 ?_);exact w_ ⟨(1,⟨.slice (some ⟨y,0,none⟩) (l.length+1) A,bm,es.push ⟨Pc.val (⟨k,a,b,c,r,s,t,lo,hi,frm⟩:Pc),.bool true,clk⟩,clk+1,[(y,.cells m 80 (0,0))]⟩),.inr ⟨rfl,by simp only[ins,yag_ hm];exact B.push d⟩⟩ yda_ zl (F:=[_,_]) (@List.perm_append_comm _ [_,_] _) zh
  . refine bF_ [(0,zp_ kb 0),(6,.slice (some ⟨C,0,none⟩) 1 1),(7,i4_ 1),(8,i4_ 1)] zl ?_;refine Zj 2 (λe=>?_) λe=>?_
    . refine Zz 6 ?_;exact cj_ results91 ⟨M,O⟩ rfl (F:=[_]) (@List.perm_append_comm _ [_] _) zt
    . exact absurd e zae_
theorem BU_:gr_ prog 142 [(0,1),(1,1),(2,1)] [i4_ 0,.slice none 0 0,.map none]:=⟨_,zeroValue142,runUnderlying142,λw=>by simp[R_,kJ_,sizeOf140]⟩
theorem jl_ (frm:Int):Tri prog 85 #[i4_ frm] [] [] (λx:Nat×Nat=>zp_ x.1 0) (λx=>fU_ x.1 frm ⟨.slice none 0 0,x.2,#[],0,[]⟩) (λ_=>[]):=by
  refine j_ func85 rfl rfl ntmps85 rfl λd=>?_;refine Zz 8 ?_;refine bt_ rfl λb1=>d_ (y_ BU_ rfl rfl) rfl (L_ rfl rfl λb2=>Zz 4 ?_)
  exact ac_ results85 (b2,b1) rfl (F:=[]) (.refl _) zt
def kF (b kb:Nat):Fct:=bk_ b (.cells [zp_ kb 0].toArray 130 (0,0))
def lFn (b bk:Nat):Value:=.func (.func 177) #[] #[zp_ b 0,zp_ bk 0]
def lF (b bk:Nat):Fct:=bk_ b (.cells [lFn b bk].toArray 132 (0,0))
def rFn (b bk:Nat):Value:=.func (.func 178) #[] #[zp_ bk 0,zp_ b 0]
def rcF (b bk:Nat):Fct:=bk_ b (.cells [rFn b bk].toArray 132 (0,0))
theorem wj_ (kb:Nat):Tri prog 86 #[zp_ kb 0] [] [] (λx:Nat×Nat×Nat=>.tuple #[lFn x.2.1 x.1,rFn x.2.2 x.1]) (λ_=>[]) (λx=>[kF x.1 kb,lF x.2.1 x.1,rcF x.2.2 x.1]):=by
  refine j_ func86 rfl rfl ntmps86 rfl λy=>?_;refine Zz 2 ?_;refine L_ rfl rfl λd=>C_ zeroValue132 rfl λe=>C_ zeroValue132 rfl λk=>Zz 4 ?_
  refine d_ (bo_ rfl rfl) rfl (p_ 1 sizeOf132 rfl rfl rfl rfl rfl rfl (Zz 4 ?_));refine d_ (bo_ rfl rfl) rfl (p_ 0 sizeOf132 rfl rfl rfl rfl rfl rfl (Zz 4 ?_));refine G_ 2 [0,1] zk zs (Zz 3 ?_);refine m_ 2 rfl zk (p_ 1 sizeOf132 rfl rfl rfl rfl rfl rfl (Zz 3 ?_));refine m_ 3 rfl zk (p_ 0 sizeOf132 rfl rfl rfl rfl rfl rfl (Zz 6 ?_));refine hK_ 0 rfl ?_;refine hK_ 0 rfl ?_;refine hK_ 0 rfl ?_;exact retG (d,e,k) (λa v m A h=>Ch_ results86 kK_ kK_ m rfl rfl (pc_ (cs:=[lFn e d]) 0 h.2.1 rfl) (pc_ (cs:=[rFn k d]) 0 h.2.2.1 rfl)) (F:=[]) (.refl _) zf
theorem Con.mem_tail {c:Con} (d:c.ok) {v:Vw} (h:c.mem v):bW_ v (sad c.ad c.cap 1 5) ((c.parts.drop 1).flatMap Con.cells):=by
  have:=((Con.mem_iff c v).1 h).1.slice Con.cells_len (Con.ok_len d).1 1 c.parts.length;rwa [yac_ zai_]at this
theorem Con.drop_at {ps:List Con} {p:Con} {i:Nat} (d:ps[i]? = some p):ps.drop i=p::ps.drop (i+1):=by
  have hi:=(yaf_.1 d).1;rw[yaa_ hi]at d;simp only[yah_]at d;subst d;exact yaV_ hi
theorem Con.szs_append:∀ (xs ys:List Con),Con.sz.szs (xs++ys)=Con.sz.szs xs+Con.sz.szs ys
  | [],ys=>by simp[Con.sz.szs]
  | x::xs,ys=>by simp only[yaD_,Con.sz.szs,Con.szs_append xs ys];omega
theorem Con.sz_at {ps:List Con} {p:Con} {i:Nat} (d:ps[i]? = some p):Con.sz.szs (ps.take i)+p.sz<=Con.sz.szs ps:=by
  have e:Con.sz.szs ps=Con.sz.szs (ps.take i++(p::ps.drop (i+1))):=by rw[<-Con.drop_at d,ybg_]
  rw[e,Con.szs_append];simp only[Con.sz.szs];omega
theorem Con.lefts_len (frm:Int) (ps:List Con) (i:Nat) (l:List Pc):(Con.leftP.lefts frm (ps.take i) l).length+(ps.take i).length<=l.length+2*Con.sz.szs (ps.take i):=by
  generalize ps.take i=qs
  induction qs generalizing l with
  | nil=>simp[Con.leftP.lefts]
  | cons p qs ih =>
    have d:=Con.leftP_len frm _ p (yad_ _) l;have e:=ih (p.leftP frm l);simp only[Con.leftP.lefts,Con.sz.szs,yak_];omega
theorem Con.rights_len (frm:Int) (a:Str) (ps:List Con) (i:Nat) (l:List Pc):(Con.rightP.rights frm a (ps.take i) l).length<=l.length+2*Con.sz.szs (ps.take i):=by
  generalize ps.take i=qs
  induction qs generalizing l with
  | nil=>simp[Con.rightP.rights]
  | cons p qs ih =>
    have d:=cH_ frm l ⟨1,a,[],p.atom,[],[],[],0,0,0⟩;have e:=Con.rightP_len frm _ p (yad_ _) (ins frm l ⟨1,a,[],p.atom,[],[],[],0,0,0⟩);have h:=ih (p.rightP frm (ins frm l ⟨1,a,[],p.atom,[],[],[],0,0,0⟩));simp only[Con.rightP.rights,Con.sz.szs];omega
theorem Con.headD_atom {ps:List Con} {p:Con} (d:ps[0]? = some p):(ps.map Con.atom).headD []=p.atom:=by cases ps<;>simp_all
theorem Con.leftP5 {c:Con} (h:c.kind=5) (frm:Int) (l:List Pc):c.leftP frm l=Con.andP frm c (c.parts.drop 1) 1 ((c.parts.map Con.atom).headD []) (Con.leftP.lefts frm c.parts l):=by rw[Con.leftP_eq,yaq_ h]
theorem Con.leftP6 {c p:Con} (h:c.kind=6) (d:c.parts=[p]) (frm:Int) (l:List Pc):c.leftP frm l=ins frm (p.leftP frm l) ⟨4,p.atom,[],c.atom,c.name,[],[],0,0,0⟩:=by
  rw[Con.leftP_eq,yag_ zaa_,yaq_ h,d];rfl
theorem Con.leftP7 {c:Con} (h:c.kind=7) (frm:Int) (l:List Pc):c.leftP frm l=ins frm l ⟨9,[],[],c.atom,c.name,[],[],c.lo,c.hi,0⟩:=by rw[Con.leftP_eq,yag_ zaa_,yag_ zaa_,yaq_ h]
theorem Con.leftP0 {c:Con} (e:c.kind≠5) (h:c.kind≠6) (d:c.kind≠7) (frm:Int) (l:List Pc):c.leftP frm l=l:=by rw[Con.leftP_eq,yag_ e,yag_ h,yag_ d]
theorem Con.rightP5 {c:Con} (h:c.kind=5) (frm:Int) (l:List Pc):c.rightP frm l=Con.rightP.rights frm c.atom c.parts l:=by rw[Con.rightP_eq,yaq_ h]
theorem Con.rightP6 {c p:Con} (h:c.kind=6) (d:c.parts=[p]) (frm:Int) (l:List Pc):c.rightP frm l=p.rightP frm (ins frm l ⟨3,c.atom,[],p.atom,c.name,[],[],0,0,0⟩):=by
  rw[Con.rightP_eq,yag_ zaa_,yaq_ h,d];rfl
theorem Con.rightP7 {c:Con} (h:c.kind=7) (frm:Int) (l:List Pc):c.rightP frm l=ins frm l ⟨8,c.atom,[],[],c.name,[],[],c.lo,c.hi,0⟩:=by rw[Con.rightP_eq,yag_ zaa_,yag_ zaa_,yaq_ h]
theorem Con.rightP0 {c:Con} (e:c.kind≠5) (h:c.kind≠6) (d:c.kind≠7) (frm:Int) (l:List Pc):c.rightP frm l=l:=by rw[Con.rightP_eq,yag_ e,yag_ h,yag_ d]
theorem iX_:gr_ prog 28 [(0,1),(1,1),(2,1),(3,1),(4,1)] [i4_ 0,str [],i4_ 0,i4_ 0,.slice none 0 0]:=⟨_,ba_,runUnderlying28,λw=>by simp[R_,D_,sizeOf26]⟩
theorem hw_ {kb bk bs:Nat} {frm:Int}:∀ (d:Nat) (c:Con),c.sz<=d->c.ok->c.fine->∀ (l:List Pc) (q:CS),CInv l q->l.length+2*c.sz<=100000->
    Tri prog 177 #[c.val,zp_ bs 0,zp_ bk 0] (fU_ kb frm q) [c.memF,bE_,kF bk kb,lF bs bk] (λ_:{X:CS // CInv (c.leftP frm l) X}=>.tuple #[]) (λX=>fU_ kb frm X.1) (λ_=>[]):=by
  intro d
  induction d with
  | zero=>intro c h;have:=c.sz_pos;omega
  | succ d ih =>
    intro c hd y Y l q W hl;have F:=Con.fields Y;have K:=F.le;have J:=F.mo;obtain⟨k,nm,lo,hi,ad,cap,ps⟩:=c;have S:=Con.ok_len y;have hsz:(Con.mk k nm lo hi ad cap ps).sz=1+Con.sz.szs ps:=by simp only[Con.sz]
    have hsl:=Con.szs_len ps;simp only[Con.parts,Con.cap,Con.kind]at S K J;refine j_ func177 rfl rfl ntmps177 rfl λv_1=>?_;refine Zz 2 ?_;refine L_ rfl rfl λC=>Zj 11 (λN=>?_) λN=>?_
    . refine Zj 6 (λE=>?_) λE=>?_
      . refine Zj 6 (λI=>?_) λI=>?_
        . refine Zz 6 ?_;exact cj_ results177 ⟨q,(by rw[Con.leftP0 (c:=(.mk k nm lo hi ad cap ps)) zaf_ zaf_ zaf_];exact W)⟩ rfl (F:=[_]) (@List.perm_append_comm _ [_] _) zt
        . refine Zz 4 ?_;refine Y_ [(C,.cells (Con.cells (Con.mk k nm lo hi ad cap ps)).toArray 28 (0,0))] zk ?_;refine G_ 4 [0,1,2,3,4,5,6,7] zk (λ_ a b=>⟨Vw.sat.sub a,b⟩) (N_ rfl (cv_ (cs:=[zp_ kb 0]) rN_ rfl (λv _ h=>h.2.2.1) rfl) rfl (Zz 8 ?_));refine m_ 8 rfl zk (f_ (co_ (.mk k nm lo hi ad cap ps) y) rfl (.refl _) zf rfl λ_=>Zz 2 ?_);refine M_ (λ_ a b=>⟨Vw.sat.sub a,b⟩) (G_ 2 [9] zk (λ_ a b=>⟨Vw.sat.sub a,b⟩) (N_ rfl (y_ dA_ rfl rfl) rfl (bX_ (m_ 10 rfl zk (B_ H_ K_ T_ rfl rfl rfl rfl rfl rfl λL=>Zz 2 ?_)))));refine M_ (λ_ a b=>⟨Vw.sat.sub a.tail,b⟩) (m_ 11 rfl zk (f_ (dD_ ⟨9,[],[],Con.atom (.mk k nm lo hi ad cap ps),nm,[],[],lo,hi,0⟩ frm l q W zaa_) rfl (.cons _ (@List.perm_append_comm _ [_] _)) zt rfl λx=>?_));obtain⟨G,A⟩:=x;refine u_ (@List.perm_append_comm _ _ [_]) (Zz 2 ?_);refine M_ (λ_ a b=>⟨Vw.sat.sub a,b⟩) (Zz 2 ?_);exact cj_ results177 ⟨G,(by rw[Con.leftP7 (c:=(.mk k nm lo hi ad cap ps)) zaf_];exact A)⟩ rfl (F:=[_]) (@List.perm_append_comm _ [_] _) zt
      . rw[E]at K J;simp[nd,ei_]at K J
        obtain⟨p,U⟩:=yce_.1 (show ps.length=1 by omega);have B:ps[0]? = some p:=by rw[U];rfl
        have m:p∈ps:=yab_ B;refine Zz 5 ?_;refine Y_ [(C,.cells (Con.cells (Con.mk k nm lo hi ad cap ps)).toArray 28 (0,0))] zk ?_;refine G_ 1 [0,1,2,3,4] zk (λ_ a b=>⟨Vw.sat.sub a,b⟩) (N_ rfl (cv_ (cs:=[lFn bs bk]) kK_ rfl (λv _ h=>h.2.2.2.1) rfl) rfl (Zz 2 ?_));refine N_ rfl (P_ af_ t_ rfl rfl (λv _ h=>av_ (n:=5) Con.cells_len zae_ (((Con.mem_iff (.mk k nm lo hi ad cap ps) v).1 h.1).1) B) zaa_ zah_) rfl ?_;refine N_ rfl (ak_ (ad:=ad) (us:=p.cells) ae_ t_ rfl (λv _ h=>((Con.mem_iff (.mk k nm lo hi ad cap ps) v).1 h.1).1) (Con.cells_len _) (A_ Con.cells_len B)) rfl (bX_ (m_ 5 rfl zk (O_ (ih p zbs_ (Con.ok_part (c:=(.mk k nm lo hi ad cap ps)) y m) (Con.fine_part (c:=(.mk k nm lo hi ad cap ps)) Y m) l q W (by have:=Con.sz_at B;omega)) rfl rfl (@List.perm_append_comm _ [_] _) (λv _ h=>by exact⟨Con.mem_part (c:=(.mk k nm lo hi ad cap ps)) h.1 m,h.2⟩) rfl λx=>?_)));obtain⟨G,A⟩:=x;refine u_ (@List.perm_append_comm _ _ [_]) (Zz 2 ?_);refine M_ (λ_ a b=>⟨Vw.sat.sub a,b⟩) (Zz 2 ?_);refine Y_ [(C,.cells (Con.cells (Con.mk k nm lo hi ad cap ps)).toArray 28 (0,0))] zk ?_;refine G_ 5 [0,1,2,3,4,5,6,8] zk (λ_ a b=>⟨Vw.sat.sub a,b⟩) (N_ rfl (cv_ (cs:=[zp_ kb 0]) rN_ rfl (λv _ h=>h.2.2.1) rfl) rfl (Zz 4 ?_));refine N_ rfl (P_ af_ t_ rfl rfl (λv _ h=>av_ (n:=5) Con.cells_len zae_ (((Con.mem_iff (.mk k nm lo hi ad cap ps) v).1 h.1).1) B) zaa_ zah_) rfl ?_;refine N_ rfl (ak_ (ad:=ad) (us:=p.cells) ae_ t_ rfl (λv _ h=>((Con.mem_iff (.mk k nm lo hi ad cap ps) v).1 h.1).1) (Con.cells_len _) (A_ Con.cells_len B)) rfl (Zz 2 ?_);refine m_ 7 rfl zk (f_ (co_ p (Con.ok_part (c:=(.mk k nm lo hi ad cap ps)) y m)) rfl (.refl _) (λv _ h=>⟨Con.mem_part (c:=(.mk k nm lo hi ad cap ps)) h.1 m,h.2.1,trivial⟩) rfl λ_=>Zz 2 ?_);refine M_ (λ_ a b=>⟨Vw.sat.sub a,b⟩) (m_ 9 rfl zk (f_ (co_ (.mk k nm lo hi ad cap ps) y) rfl (.refl _) zf rfl λ_=>Zz 2 ?_));refine M_ (λ_ a b=>⟨Vw.sat.sub a,b⟩) (G_ 2 [10] zk (λ_ a b=>⟨Vw.sat.sub a,b⟩) (N_ rfl (y_ dA_ rfl rfl) rfl (bX_ (m_ 11 rfl zk (B_ H_ K_ T_ rfl rfl rfl rfl rfl rfl λL=>Zz 2 ?_)))));refine M_ (λ_ a b=>⟨Vw.sat.sub a.tail,b⟩) (m_ 12 rfl zk (f_ (dD_ ⟨4,p.atom,[],Con.atom (.mk k nm lo hi ad cap ps),nm,[],[],0,0,0⟩ frm (p.leftP frm l) G A (by have:=Con.leftP_len frm _ p (yad_ _) l;have:=Con.sz_at B;omega)) rfl (.cons _ (@List.perm_append_comm _ [_] _)) zt rfl λx=>?_));obtain⟨H,Q⟩:=x;refine u_ (@List.perm_append_comm _ _ [_]) (Zz 2 ?_);refine M_ (λ_ a b=>⟨Vw.sat.sub a,b⟩) (Zz 2 ?_);exact cj_ results177 ⟨H,(by rw[Con.leftP6 (c:=(.mk k nm lo hi ad cap ps)) (p:=p) zaf_ U];exact Q)⟩ rfl (F:=[_]) (@List.perm_append_comm _ [_] _) zt
    . rw[N]at K J;simp[nd,ei_]at K J
      refine Zz 14 ?_;refine bF_ [(1,zp_ bs 0),(2,zp_ bk 0),(3,zp_ C 0),(15,.slice ad ps.length cap),(16,i4_ ps.length),(17,i4_ ((0:Nat):Int))] zl ?_;refine bY_ (ι:={x:Nat×CS // x.1<=ps.length/\CInv (Con.leftP.lefts frm (ps.take x.1) l) x.2}) (λx=>[(1,zp_ bs 0),(2,zp_ bk 0),(3,zp_ C 0),(15,.slice ad ps.length cap),(16,i4_ ps.length),(17,i4_ x.1.1)]) (λx=>_::fU_ kb frm x.1.2) (λ_=>_) (λx=>ps.length - x.1.1) ⟨(0,q),by simp,by simpa [Con.leftP.lefts] using W⟩ ?_;rintro ⟨⟨i,G⟩,hk⟩;dsimp only at hk;refine bF_ [(1,zp_ bs 0),(2,zp_ bk 0),(3,zp_ C 0),(15,.slice ad ps.length cap),(16,i4_ ps.length),(17,i4_ i)] zl ?_;refine Zj 2 (λE=>?_) λE=>?_
      . obtain rfl:i=ps.length:=by omega
        rw[ybB_]at hk;obtain⟨p,B⟩:∃ p,ps[0]? = some p:=⟨_,yaa_ (show 0<ps.length by omega)⟩;have m:p∈ps:=yab_ B;refine Zz 10 ?_;refine d_ (P_ af_ t_ rfl rfl (λv _ h=>av_ (n:=5) Con.cells_len zae_ (((Con.mem_iff (.mk k nm lo hi ad cap ps) v).1 h.1).1) B) zaa_ zah_) rfl ?_;refine d_ (ak_ (ad:=ad) (us:=p.cells) ae_ t_ rfl (λv _ h=>((Con.mem_iff (.mk k nm lo hi ad cap ps) v).1 h.1).1) (Con.cells_len _) (A_ Con.cells_len B)) rfl (f_ (co_ p (Con.ok_part (c:=(.mk k nm lo hi ad cap ps)) y m)) rfl (.refl _) (λv _ h=>⟨Con.mem_part (c:=(.mk k nm lo hi ad cap ps)) h.1 m,h.2.1,trivial⟩) rfl λ_=>Zz 7 ?_);refine d_ (cD_ (i:=1) (j:=ps.length) (kl:=.i64) (kh:=.i64) af_ t_ rfl rfl rfl zaa_ (by first|omega|(simp only[Con.cap];omega))) rfl ?_;refine Zz 5 ?_;refine bF_ [(1,zp_ bs 0),(2,zp_ bk 0),(3,zp_ C 0),(6,str p.atom),(32,.slice (sad ad cap 1 5) (ps.length - 1) (cap - 1)),(33,i4_ ((ps.length - 1:Nat):Int)),(34,i4_ ((0:Nat):Int))] zl ?_;have hh:=Con.headD_atom B;have T:=Con.lefts_len frm ps ps.length l;rw[ybB_]at T;generalize p.atom=f0 at hh ⊢
        refine bY_ (ι:={x:Nat×Str×List Pc×CS // x.1<=ps.length - 1/\CInv x.2.2.1 x.2.2.2/\x.2.2.1.length<=(Con.leftP.lefts frm ps l).length+x.1/\Con.andP frm (.mk k nm lo hi ad cap ps) (ps.drop 1) 1 f0 (Con.leftP.lefts frm ps l)=Con.andP frm (.mk k nm lo hi ad cap ps) (ps.drop (1+x.1)) (1+x.1) x.2.1 x.2.2.1}) (λx=>[(1,zp_ bs 0),(2,zp_ bk 0),(3,zp_ C 0),(6,str x.1.2.1),(32,.slice (sad ad cap 1 5) (ps.length - 1) (cap - 1)),(33,i4_ ((ps.length - 1:Nat):Int)),(34,i4_ x.1.1)]) (λx=>_::fU_ kb frm x.1.2.2.2) (λ_=>_) (λx=>ps.length - 1 - x.1.1) ⟨(0,f0,(Con.leftP.lefts frm ps l),G),by simp,hk.2,by simp,rfl⟩ ?_;rintro ⟨⟨i,f,P,H⟩,V⟩;dsimp only at V;refine bF_ [(1,zp_ bs 0),(2,zp_ bk 0),(3,zp_ C 0),(6,str f),(32,.slice (sad ad cap 1 5) (ps.length - 1) (cap - 1)),(33,i4_ ((ps.length - 1:Nat):Int)),(34,i4_ i)] zl ?_;refine Zj 2 (λI=>?_) λI=>?_
        . refine Zz 6 ?_;exact cj_ results177 ⟨H,(by have e:=V.2.2.2;rw[yaO_ (show ps.length<=1+i by omega)]at e;rw[Con.leftP5 (c:=(.mk k nm lo hi ad cap ps)) zaf_];simp only[Con.parts,hh];rw[e];exact V.2.1)⟩ rfl (F:=[_]) (@List.perm_append_comm _ [_] _) zt
        . have O:i<ps.length - 1:=by omega
          obtain⟨p,B⟩:∃ p,(ps.drop 1)[i]? = some p:=⟨_,yaa_ zar_⟩;have M:ps[1+i]? = some p:=by rw[<-List.getElem?_drop];exact B
          have m:p∈ps:=yab_ M;refine Zz 11 ?_;refine d_ (P_ af_ t_ rfl rfl (λv _ h=>av_ (n:=5) Con.cells_len zae_ ((Con.mem_tail (c:=(.mk k nm lo hi ad cap ps)) y h.1)) B) zaa_ zah_) rfl ?_;refine d_ (ak_ (ad:=(sad ad cap 1 5)) (us:=p.cells) ae_ t_ rfl (λv _ h=>(Con.mem_tail (c:=(.mk k nm lo hi ad cap ps)) y h.1)) (Con.cells_len _) (A_ Con.cells_len B)) rfl (C_ ba_ rfl λL=>Zz 1 ?_);refine fB_ 0 t_ rfl rfl rfl rfl (Zz 8 ?_);refine d_ (ai_ (cD_ (i:=0) (j:=i+2) (kl:=.i64) (kh:=.i64) af_ t_ rfl rfl rfl zaa_ (by first|omega|(simp only[Con.cap];omega))) (show _=Value.slice (sad ad cap 0 5) (ps.take (i+2)).length (cap - 0) by rw[yaI_,ybA_ zaa_];rfl)) rfl ?_;refine d_ (y_ iX_ rfl rfl) rfl (f_ (co_ (Con.pre (.mk k nm lo hi ad cap ps) (i+2)) (Con.pre_ok y _)) rfl (.refl _) (λv _ h=>⟨Con.pre_mem y h.1 _,h.2.1,trivial⟩) rfl λ_=>Zz 4 ?_);refine Y_ [(L,.cells p.cells.toArray 28 (0,0)),(C,.cells (Con.cells (Con.mk k nm lo hi ad cap ps)).toArray 28 (0,0))] zk ?_;refine G_ 4 [0,1,2,4] zk (λ_ a b=>⟨Vw.sat.sub a,b⟩) (N_ rfl (cv_ (cs:=[zp_ kb 0]) rN_ rfl (λv _ h=>h.2.2.1) rfl) rfl (Zz 1 ?_));refine N_ rfl (cX_ 0 ae_ t_ rfl rfl) rfl (Zz 2 ?_);refine m_ 3 rfl zk (f_ (co_ p (Con.ok_part (c:=(.mk k nm lo hi ad cap ps)) y m)) rfl (.refl _) (λv _ h=>⟨Con.mem_part (c:=(.mk k nm lo hi ad cap ps)) h.1 m,h.2.1,trivial⟩) rfl λ_=>Zz 2 ?_);refine M_ (λ_ a b=>⟨Vw.sat.sub a,b⟩) (G_ 2 [5] zk (λ_ a b=>⟨Vw.sat.sub a,b⟩) (N_ rfl (y_ dA_ rfl rfl) rfl (bX_ (m_ 6 rfl zk (B_ H_ K_ T_ rfl rfl rfl rfl rfl rfl λb_3=>Zz 2 ?_)))));refine M_ (λ_ a b=>⟨Vw.sat.sub a.tail,b⟩) (m_ 7 rfl zk (f_ (dD_ ⟨2,f,p.atom,(Con.pre (.mk k nm lo hi ad cap ps) (i+2)).atom,[],[],[],0,0,0⟩ frm P H V.2.1 zaa_) rfl (.cons _ (@List.perm_append_comm _ [_,_] _)) zt rfl λx=>?_));obtain⟨Z,A⟩:=x;refine u_ (@List.perm_append_comm _ _ [_,_]) (Zz 2 ?_);refine M_ (λ_ a b=>⟨Vw.sat.sub a,b⟩) (Zz 12 ?_);exact w_ ⟨(i+1,(Con.pre (.mk k nm lo hi ad cap ps) (i+2)).atom,(ins frm P ⟨2,f,p.atom,(Con.pre (.mk k nm lo hi ad cap ps) (i+2)).atom,[],[],[],0,0,0⟩),Z),by omega,A,by have:=cH_ frm P ⟨2,f,p.atom,(Con.pre (.mk k nm lo hi ad cap ps) (i+2)).atom,[],[],[],0,0,0⟩;dsimp only;omega,by rw[V.2.2.2,Con.drop_at M];simp only[Con.andP];rw[show 1+i+1=i+2 by omega,show 1+(i+1)=i+2 by omega]⟩ zar_ zl (F:=[_]) (@List.perm_append_comm _ [_] _) zh
      . have O:i<ps.length:=by omega
        obtain⟨p,B⟩:∃ p,ps[i]? = some p:=⟨_,yaa_ O⟩;have m:p∈ps:=yab_ B;refine Zz 10 ?_;refine d_ (P_ af_ t_ rfl rfl (λv _ h=>av_ (n:=5) Con.cells_len zae_ (((Con.mem_iff (.mk k nm lo hi ad cap ps) v).1 h.1).1) B) zaa_ zah_) rfl ?_;refine d_ (ak_ (ad:=ad) (us:=p.cells) ae_ t_ rfl (λv _ h=>((Con.mem_iff (.mk k nm lo hi ad cap ps) v).1 h.1).1) (Con.cells_len _) (A_ Con.cells_len B)) rfl (C_ ba_ rfl λL=>fB_ 0 t_ rfl rfl rfl rfl (Zz 3 ?_));refine d_ (cv_ (cs:=[lFn bs bk]) kK_ rfl (λv _ h=>h.2.2.2.1) rfl) rfl (d_ (cX_ 0 ae_ t_ rfl rfl) rfl (O_ (ih p zbs_ (Con.ok_part (c:=(.mk k nm lo hi ad cap ps)) y m) (Con.fine_part (c:=(.mk k nm lo hi ad cap ps)) Y m) (Con.leftP.lefts frm (ps.take i) l) G hk.2 (by have:=Con.lefts_len frm ps i l;have:=Con.sz_at B;omega)) rfl rfl (@List.perm_append_comm _ [_,_] _) (λv _ h=>by exact⟨Con.mem_part (c:=(.mk k nm lo hi ad cap ps)) h.1 m,h.2⟩) rfl λx=>?_));obtain⟨H,A⟩:=x;refine u_ (@List.perm_append_comm _ _ [_,_]) (Zz 7 ?_);exact w_ ⟨(i+1,H),O,by rw[Con.lefts_step frm B];exact A⟩ zar_ zl (F:=[_]) (@List.perm_append_comm _ [_] _) zh
theorem fH_ {kb bk bs:Nat} {frm:Int}:∀ (d:Nat) (c:Con),c.sz<=d->c.ok->c.fine->∀ (l:List Pc) (q:CS),CInv l q->l.length+2*c.sz<=100000->
    Tri prog 178 #[c.val,zp_ bk 0,zp_ bs 0] (fU_ kb frm q) [c.memF,bE_,kF bk kb,rcF bs bk] (λ_:{S:CS // CInv (c.rightP frm l) S}=>.tuple #[]) (λS=>fU_ kb frm S.1) (λ_=>[]):=by
  intro d
  induction d with
  | zero=>intro c h;have:=c.sz_pos;omega
  | succ d ih =>
    intro c Z y T l q Q hl;have F:=Con.fields T;have I:=F.le;have H:=F.mo;obtain⟨k,nm,lo,hi,ad,cap,ps⟩:=c;have N:=Con.ok_len y;have X:(Con.mk k nm lo hi ad cap ps).sz=1+Con.sz.szs ps:=by simp only[Con.sz]
    have V:=Con.szs_len ps;simp only[Con.parts,Con.cap,Con.kind]at N I H;refine j_ func178 rfl rfl ntmps178 rfl λW=>?_;refine Zz 2 ?_;refine L_ rfl rfl λA=>Zj 11 (λJ=>?_) λJ=>?_
    . refine Zj 6 (λB=>?_) λB=>?_
      . refine Zj 6 (λP=>?_) λP=>?_
        . refine Zz 6 ?_;exact cj_ results178 ⟨q,(by rw[Con.rightP0 (c:=(.mk k nm lo hi ad cap ps)) zaf_ zaf_ zaf_];exact Q)⟩ rfl (F:=[_]) (@List.perm_append_comm _ [_] _) zt
        . refine Zz 4 ?_;refine Y_ [(A,.cells (Con.cells (Con.mk k nm lo hi ad cap ps)).toArray 28 (0,0))] zk ?_;refine G_ 4 [0,1,3,4,5,6,7,8] zk (λ_ a b=>⟨Vw.sat.sub a,b⟩) (N_ rfl (cv_ (cs:=[zp_ kb 0]) rN_ rfl (λv _ h=>h.2.2.1) rfl) rfl (Zz 8 ?_));refine m_ 2 rfl zk (f_ (co_ (.mk k nm lo hi ad cap ps) y) rfl (.refl _) zf rfl λ_=>Zz 2 ?_);refine M_ (λ_ a b=>⟨Vw.sat.sub a,b⟩) (G_ 2 [9] zk (λ_ a b=>⟨Vw.sat.sub a,b⟩) (N_ rfl (y_ dA_ rfl rfl) rfl (bX_ (m_ 10 rfl zk (B_ H_ K_ T_ rfl rfl rfl rfl rfl rfl λK=>Zz 2 ?_)))));refine M_ (λ_ a b=>⟨Vw.sat.sub a.tail,b⟩) (m_ 11 rfl zk (f_ (dD_ ⟨8,Con.atom (.mk k nm lo hi ad cap ps),[],[],nm,[],[],lo,hi,0⟩ frm l q Q zaa_) rfl (.cons _ (@List.perm_append_comm _ [_] _)) zt rfl λx=>?_));obtain⟨E,m⟩:=x;refine u_ (@List.perm_append_comm _ _ [_]) (Zz 2 ?_);refine M_ (λ_ a b=>⟨Vw.sat.sub a,b⟩) (Zz 2 ?_);exact cj_ results178 ⟨E,(by rw[Con.rightP7 (c:=(.mk k nm lo hi ad cap ps)) zaf_];exact m)⟩ rfl (F:=[_]) (@List.perm_append_comm _ [_] _) zt
      . rw[B]at I H;simp[nd,ei_]at I H
        obtain⟨p,O⟩:=yce_.1 (show ps.length=1 by omega);have C:ps[0]? = some p:=by rw[O];rfl
        have e:p∈ps:=yab_ C;refine Zz 5 ?_;refine Y_ [(A,.cells (Con.cells (Con.mk k nm lo hi ad cap ps)).toArray 28 (0,0))] zk ?_;refine G_ 5 [0,1,3,4,5,6,7,8] zk (λ_ a b=>⟨Vw.sat.sub a,b⟩) (N_ rfl (cv_ (cs:=[zp_ kb 0]) rN_ rfl (λv _ h=>h.2.2.1) rfl) rfl (Zz 5 ?_));refine N_ rfl (P_ af_ t_ rfl rfl (λv _ h=>av_ (n:=5) Con.cells_len zae_ (((Con.mem_iff (.mk k nm lo hi ad cap ps) v).1 h.1).1) C) zaa_ zah_) rfl ?_;refine N_ rfl (ak_ (ad:=ad) (us:=p.cells) ae_ t_ rfl (λv _ h=>((Con.mem_iff (.mk k nm lo hi ad cap ps) v).1 h.1).1) (Con.cells_len _) (A_ Con.cells_len C)) rfl (bX_ (m_ 2 rfl zk (f_ (co_ (.mk k nm lo hi ad cap ps) y) rfl (.refl _) zf rfl λ_=>Zz 2 ?_)));refine M_ (λ_ a b=>⟨Vw.sat.sub a,b⟩) (m_ 9 rfl zk (f_ (co_ p (Con.ok_part (c:=(.mk k nm lo hi ad cap ps)) y e)) rfl (.refl _) (λv _ h=>⟨Con.mem_part (c:=(.mk k nm lo hi ad cap ps)) h.1 e,h.2.1,trivial⟩) rfl λ_=>Zz 2 ?_));refine M_ (λ_ a b=>⟨Vw.sat.sub a,b⟩) (G_ 2 [10] zk (λ_ a b=>⟨Vw.sat.sub a,b⟩) (N_ rfl (y_ dA_ rfl rfl) rfl (bX_ (m_ 11 rfl zk (B_ H_ K_ T_ rfl rfl rfl rfl rfl rfl λK=>Zz 2 ?_)))));refine M_ (λ_ a b=>⟨Vw.sat.sub a.tail,b⟩) (m_ 12 rfl zk (f_ (dD_ ⟨3,Con.atom (.mk k nm lo hi ad cap ps),[],p.atom,nm,[],[],0,0,0⟩ frm l q Q zaa_) rfl (.cons _ (@List.perm_append_comm _ [_] _)) zt rfl λx=>?_));obtain⟨E,m⟩:=x;refine u_ (@List.perm_append_comm _ _ [_]) (Zz 2 ?_);refine M_ (λ_ a b=>⟨Vw.sat.sub a,b⟩) (Zz 2 ?_);refine Y_ [(A,.cells (Con.cells (Con.mk k nm lo hi ad cap ps)).toArray 28 (0,0))] zk ?_;refine G_ 1 [0,1,2,3,4] zk (λ_ a b=>⟨Vw.sat.sub a,b⟩) (N_ rfl (cv_ (cs:=[rFn bs bk]) kK_ rfl (λv _ h=>h.2.2.2.1) rfl) rfl (Zz 2 ?_));refine N_ rfl (P_ af_ t_ rfl rfl (λv _ h=>av_ (n:=5) Con.cells_len zae_ (((Con.mem_iff (.mk k nm lo hi ad cap ps) v).1 h.1).1) C) zaa_ zah_) rfl ?_;refine N_ rfl (ak_ (ad:=ad) (us:=p.cells) ae_ t_ rfl (λv _ h=>((Con.mem_iff (.mk k nm lo hi ad cap ps) v).1 h.1).1) (Con.cells_len _) (A_ Con.cells_len C)) rfl (bX_ (m_ 5 rfl zk (O_ (ih p zbt_ (Con.ok_part (c:=(.mk k nm lo hi ad cap ps)) y e) (Con.fine_part (c:=(.mk k nm lo hi ad cap ps)) T e) (ins frm l ⟨3,Con.atom (.mk k nm lo hi ad cap ps),[],p.atom,nm,[],[],0,0,0⟩) E m (by have:=cH_ frm l ⟨3,Con.atom (.mk k nm lo hi ad cap ps),[],p.atom,nm,[],[],0,0,0⟩;have:=Con.sz_at C;omega)) rfl rfl (@List.perm_append_comm _ [_] _) (λv _ h=>by exact⟨Con.mem_part (c:=(.mk k nm lo hi ad cap ps)) h.1 e,h.2⟩) rfl λx=>?_)));obtain⟨L,G⟩:=x;refine u_ (@List.perm_append_comm _ _ [_]) (Zz 2 ?_);refine M_ (λ_ a b=>⟨Vw.sat.sub a,b⟩) (Zz 2 ?_);exact cj_ results178 ⟨L,(by rw[Con.rightP6 (c:=(.mk k nm lo hi ad cap ps)) (p:=p) zaf_ O];exact G)⟩ rfl (F:=[_]) (@List.perm_append_comm _ [_] _) zt
    . rw[J]at I H;simp[nd,ei_]at I H
      refine Zz 13 ?_;refine bF_ [(1,zp_ bk 0),(2,zp_ bs 0),(3,zp_ A 0),(11,.slice ad ps.length cap),(12,i4_ ps.length),(13,i4_ ((0:Nat):Int))] zl ?_;refine bY_ (ι:={x:Nat×CS // x.1<=ps.length/\CInv (Con.rightP.rights frm (Con.atom (.mk k nm lo hi ad cap ps)) (ps.take x.1) l) x.2}) (λx=>[(1,zp_ bk 0),(2,zp_ bs 0),(3,zp_ A 0),(11,.slice ad ps.length cap),(12,i4_ ps.length),(13,i4_ x.1.1)]) (λx=>_::fU_ kb frm x.1.2) (λ_=>_) (λx=>ps.length - x.1.1) ⟨(0,q),by simp,by simpa [Con.rightP.rights] using Q⟩ ?_;rintro ⟨⟨i,E⟩,hk⟩;dsimp only at hk;refine bF_ [(1,zp_ bk 0),(2,zp_ bs 0),(3,zp_ A 0),(11,.slice ad ps.length cap),(12,i4_ ps.length),(13,i4_ i)] zl ?_;refine Zj 2 (λB=>?_) λB=>?_
      . obtain rfl:i=ps.length:=by omega
        rw[ybB_]at hk;refine Zz 6 ?_;exact cj_ results178 ⟨E,(by rw[Con.rightP5 (c:=(.mk k nm lo hi ad cap ps)) zaf_];exact hk.2)⟩ rfl (F:=[_]) (@List.perm_append_comm _ [_] _) zt
      . have M:i<ps.length:=by omega
        obtain⟨p,C⟩:∃ p,ps[i]? = some p:=⟨_,yaa_ M⟩;have e:p∈ps:=yab_ C;refine Zz 10 ?_;refine d_ (P_ af_ t_ rfl rfl (λv _ h=>av_ (n:=5) Con.cells_len zae_ (((Con.mem_iff (.mk k nm lo hi ad cap ps) v).1 h.1).1) C) zaa_ zah_) rfl ?_;refine d_ (ak_ (ad:=ad) (us:=p.cells) ae_ t_ rfl (λv _ h=>((Con.mem_iff (.mk k nm lo hi ad cap ps) v).1 h.1).1) (Con.cells_len _) (A_ Con.cells_len C)) rfl (C_ ba_ rfl λK=>fB_ 0 t_ rfl rfl rfl rfl (Zz 3 ?_));refine Y_ [(K,.cells p.cells.toArray 28 (0,0)),(A,.cells (Con.cells (Con.mk k nm lo hi ad cap ps)).toArray 28 (0,0))] zk ?_;refine G_ 5 [0,1,3] zk (λ_ a b=>⟨Vw.sat.sub a,b⟩) (N_ rfl (cv_ (cs:=[zp_ kb 0]) rN_ rfl (λv _ h=>h.2.2.1) rfl) rfl (Zz 1 ?_));refine N_ rfl (cX_ 0 ae_ t_ rfl rfl) rfl (bX_ (m_ 2 rfl zk (f_ (co_ (.mk k nm lo hi ad cap ps) y) rfl (.refl _) zf rfl λ_=>Zz 2 ?_)));refine M_ (λ_ a b=>⟨Vw.sat.sub a,b⟩) (m_ 4 rfl zk (f_ (co_ p (Con.ok_part (c:=(.mk k nm lo hi ad cap ps)) y e)) rfl (.refl _) (λv _ h=>⟨Con.mem_part (c:=(.mk k nm lo hi ad cap ps)) h.1 e,h.2.1,trivial⟩) rfl λ_=>Zz 2 ?_));refine M_ (λ_ a b=>⟨Vw.sat.sub a,b⟩) (G_ 2 [5] zk (λ_ a b=>⟨Vw.sat.sub a,b⟩) (N_ rfl (y_ dA_ rfl rfl) rfl (bX_ (m_ 6 rfl zk (B_ H_ K_ T_ rfl rfl rfl rfl rfl rfl λY=>Zz 2 ?_)))));refine M_ (λ_ a b=>⟨Vw.sat.sub a.tail,b⟩) (m_ 7 rfl zk (f_ (dD_ ⟨1,Con.atom (.mk k nm lo hi ad cap ps),[],p.atom,[],[],[],0,0,0⟩ frm (Con.rightP.rights frm (Con.atom (.mk k nm lo hi ad cap ps)) (ps.take i) l) E hk.2 (by have:=Con.rights_len frm (Con.atom (.mk k nm lo hi ad cap ps)) ps i l;have:=Con.sz_at C;have:=p.sz_pos;omega)) rfl (.cons _ (@List.perm_append_comm _ [_,_] _)) zt rfl λx=>?_));obtain⟨L,m⟩:=x;refine u_ (@List.perm_append_comm _ _ [_,_]) (Zz 2 ?_);refine M_ (λ_ a b=>⟨Vw.sat.sub a,b⟩) (Zz 3 ?_);refine d_ (cv_ (cs:=[rFn bs bk]) kK_ rfl (λv _ h=>h.2.2.2.1) rfl) rfl (d_ (cX_ 0 ae_ t_ rfl rfl) rfl (O_ (ih p zbt_ (Con.ok_part (c:=(.mk k nm lo hi ad cap ps)) y e) (Con.fine_part (c:=(.mk k nm lo hi ad cap ps)) T e) (ins frm (Con.rightP.rights frm (Con.atom (.mk k nm lo hi ad cap ps)) (ps.take i) l) ⟨1,Con.atom (.mk k nm lo hi ad cap ps),[],p.atom,[],[],[],0,0,0⟩) L m (by have:=Con.rights_len frm (Con.atom (.mk k nm lo hi ad cap ps)) ps i l;have:=Con.sz_at C;have:=cH_ frm (Con.rightP.rights frm (Con.atom (.mk k nm lo hi ad cap ps)) (ps.take i) l) ⟨1,(Con.atom (.mk k nm lo hi ad cap ps)),[],p.atom,[],[],[],0,0,0⟩;omega)) rfl rfl (@List.perm_append_comm _ [_,_] _) (λv _ h=>by exact⟨Con.mem_part (c:=(.mk k nm lo hi ad cap ps)) h.1 e,h.2⟩) rfl λx=>?_));obtain⟨U,G⟩:=x;refine u_ (@List.perm_append_comm _ _ [_,_]) (Zz 7 ?_);exact w_ ⟨(i+1,U),M,by rw[Con.rights_step frm _ C];exact G⟩ zar_ zl (F:=[_]) (@List.perm_append_comm _ [_] _) zh
end Go.Proofs.YtbffkokbdeppaaaGreatDoor
