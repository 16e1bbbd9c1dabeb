/-
  Lemmas for the law TopChanges (no condition).
-/
import Derived.Test.YtfjcabalehamcaaGreatDoorQTopChanges3
import Derived.Test.YtfjcabalehamcaaGreatDoorProg
set_option linter.unusedVariables false
set_option linter.unusedSimpArgs false
set_option linter.unusedSectionVars false
set_option maxHeartbeats 1000000
namespace Go.Proofs.YtfjcabalehamcaaGreatDoor
open Go Go.Sx Go.Proofs Tryz
attribute [local irreducible] Code.wp wpList wpAnyH
open Go.Vs
theorem yM_ {σ τ:Type} {l:Nat} {I:σ->Hp} {O:τ->Hp} {stp:Con->σ->σ ⊕ τ} {E:List Fct} {good:Con->Prop} (G:∀ c p,good c->p∈c.parts->good p)
    (U:∀ s x,x.ok->good x->kB_ prog l x.val (I s) (x.memF::E) (λ_:Unit=>.bool (stp x s).isLeft) (λ_=>rD_ I O (stp x s)) (λ_=>[])) :
    ∀ (m:Nat) (c:Con),c.sz<=m->c.ok->good c->∀ (s:σ) r,Con.fold stp c s=r->
    Tri prog 179 #[c.val,.func (.yield l) #[] #[]] (I s) (c.memF::E) (λ_:Unit=>.bool r.isLeft) (λ_=>rD_ I O r) (λ_=>[]):=by
  intro m
  induction m with
  | zero=>intro c h;have:=c.sz_pos;omega
  | succ m ih =>
    intro c hm y P s r S;obtain⟨k,nm,lo,hi,ad,cap,ps⟩:=c;have K:=Con.ok_len y;simp only[Con.parts,Con.cap]at K;have N:∀ p∈ps,good p:=λp H=>G _ p P H
    refine g_ func179 rfl rfl ntmps179 rfl λW=>?_;refine Zz 2 ?_;refine F_ rfl rfl λB=>Zz 5 ?_
    rcases hfc:stp (.mk k nm lo hi ad cap ps) s with C|L
    . refine jT_ (ι:=Unit) (λ_=>[(1,.func (.yield l) #[] #[]),(2,zp_ B 0),(10,.bool false)]) (λ_=>(B,.cells (Con.mk k nm lo hi ad cap ps).cells.toArray 49 (0,0))::I C) (λ_=>[(Con.mk k nm lo hi ad cap ps).memF]++E) ?_ λ_=>?_
      . refine bz_ ?_;refine bk_ cl_ (aV_ rfl) rfl rfl ?_;refine bk_ cl_ (cD_ (c:=.mk k nm lo hi ad cap ps) 0 aq_ D_ rfl rfl) rfl rfl ?_;refine hw_ (U s _ y P) rfl rfl (@List.perm_append_comm _ [_] _) (λv _ h=>h) rfl λ_=>?_;rw[hfc];refine bk_ cl_ (aH_ rfl) rfl rfl ?_;refine cA_ ?_;refine du_ rfl ?_;exact eo_ () zl (F:=[]) zaP_ zh
      . refine Zz 14 ?_;refine bh_ [(1,.func (.yield l) #[] #[]),(12,.slice ad ps.length cap),(13,i4_ ps.length),(14,i4_ ((0:Nat):Int))] zl ?_;refine bF_ (ι:={q:Nat×σ // q.1<=ps.length/\Con.fold.folds stp (ps.take q.1) C=.inl q.2}) (λi=>[(1,.func (.yield l) #[] #[]),(12,.slice ad ps.length cap),(13,i4_ ps.length),(14,i4_ i.1.1)]) (λi=>_::I i.1.2) (λ_=>_) (λi=>ps.length - i.1.1) ⟨(0,C),by simp[Con.fold.folds]⟩ ?_;rintro ⟨⟨i,A⟩,Q⟩;refine bh_ [(1,.func (.yield l) #[] #[]),(12,.slice ad ps.length cap),(13,i4_ ps.length),(14,i4_ i)] zl ?_;refine Zj 2 (λM=>?_) λM=>?_
        . refine Zz 12 ?_;obtain rfl:r=.inl A:=by rw[<-S,Con.fold_eq,hfc];exact Con.folds_yes (show ps.length<=i by omega) Q.2
          exact ac_ results179 () rfl (@List.perm_append_comm _ [_] _) zt
        . have J:i<ps.length:=by omega
          obtain⟨p,H⟩:∃ p,ps[i]? = some p:=⟨_,yaa_ J⟩;have d:p∈ps:=yac_ H;refine Zz 10 ?_;refine e_ (Y_ al_ D_ rfl rfl (λv _ h=>Con.row_addr (c:=.mk k nm lo hi ad cap ps) h.1 H) zaa_ zaa_) rfl (e_ (ah_ (us:=p.cells) aq_ D_ rfl (λv _ h=>((Con.mem_iff (.mk k nm lo hi ad cap ps) v).1 h.1).1) p.cells_len (Con.part_cells (c:=.mk k nm lo hi ad cap ps) (i:=i) H)) rfl (u_ bP_ rfl λV=>eS_ 0 D_ rfl rfl rfl rfl (Zz 3 ?_)));rcases hfp:Con.fold stp p A with R|T
          . refine aQ_ (e_ (cD_ 0 aq_ D_ rfl rfl) rfl (Zz 1 ?_));refine f_ (ih p zbv_ (Con.ok_part (c:=.mk k nm lo hi ad cap ps) y d) (N p d) A _ hfp) rfl (@List.perm_append_comm _ [_,_] _) (λv _ h=>⟨Con.mem_part (c:=.mk k nm lo hi ad cap ps) h.1 d,h.2⟩) rfl λ_=>?_;refine t_ (@List.perm_append_comm _ _ [_,_]) (e_ (aH_ rfl) rfl (Zz 10 ?_));exact C_ ⟨(i+1,R),J,Con.folds_step H Q.2 hfp⟩ zal_ zl (F:=[_]) (@List.perm_append_comm _ [_] _) zh
          . refine aQ_ (e_ (cD_ 0 aq_ D_ rfl rfl) rfl (Zz 1 ?_));refine f_ (ih p zbv_ (Con.ok_part (c:=.mk k nm lo hi ad cap ps) y d) (N p d) A _ hfp) rfl (@List.perm_append_comm _ [_,_] _) (λv _ h=>⟨Con.mem_part (c:=.mk k nm lo hi ad cap ps) h.1 d,h.2⟩) rfl λ_=>?_;refine t_ (@List.perm_append_comm _ _ [_,_]) (e_ (aH_ rfl) rfl (Zz 9 ?_));obtain rfl:r=.inr T:=by rw[<-S,Con.fold_eq,hfc];exact Con.folds_no H Q.2 hfp
            exact ac_ results179 () rfl (@List.perm_append_comm _ [_,_] _) zt
    . refine jT_ (ι:=Unit) (λ_=>[(1,.func (.yield l) #[] #[]),(2,zp_ B 0),(10,.bool true)]) (λ_=>(B,.cells (Con.mk k nm lo hi ad cap ps).cells.toArray 49 (0,0))::O L) (λ_=>[(Con.mk k nm lo hi ad cap ps).memF]++E) ?_ λ_=>?_
      . refine bz_ ?_;refine bk_ cl_ (aV_ rfl) rfl rfl ?_;refine bk_ cl_ (cD_ (c:=.mk k nm lo hi ad cap ps) 0 aq_ D_ rfl rfl) rfl rfl ?_;refine hw_ (U s _ y P) rfl rfl (@List.perm_append_comm _ [_] _) (λv _ h=>h) rfl λ_=>?_;rw[hfc];refine bk_ cl_ (aH_ rfl) rfl rfl ?_;refine cA_ ?_;refine du_ rfl ?_;exact eo_ () zl (F:=[]) zaP_ zh
      . refine Zz 8 ?_;obtain rfl:r=.inr L:=by rw[<-S,Con.fold_eq,hfc]
        exact ac_ results179 () rfl (@List.perm_append_comm _ [_] _) zt
theorem wf_ (c:Con) :
    Tri prog 111 #[c.val] [] [] (λb:Nat=>.func (.func 178) #[] #[zp_ b 0]) (λb=>[(b,.cells c.cells.toArray 49 (0,0))]) (λ_=>[]):=by
  refine g_ func111 rfl rfl ntmps111 rfl λm=>?_;refine Zz 2 ?_;refine F_ rfl rfl λd=>Zz 5 ?_
  refine e_ (aR_ rfl rfl) rfl (Zz 4 ?_);exact ac_ results111 d rfl (F:=[]) (.refl _) zt
theorem tF_ {σ τ:Type} {l b:Nat} {m:σ->Hp} {A:τ->Hp} {stp:Con->σ->σ ⊕ τ} {E:List Fct} {good:Con->Prop} (d:∀ c p,good c->p∈c.parts->good p)
    (C:∀ s x,x.ok->good x->kB_ prog l x.val (m s) (x.memF::E) (λ_:Unit=>.bool (stp x s).isLeft) (λ_=>rD_ m A (stp x s)) (λ_=>[]))
    (c:Con) (y:c.ok) (B:good c) (s:σ) :
    Tri prog 178 #[.func (.yield l) #[] #[],zp_ b 0] ((b,.cells c.cells.toArray 49 (0,0))::m s) (c.memF::E) (λ_:Unit=>.tuple #[]) (λ_=>(b,.cells c.cells.toArray 49 (0,0))::rD_ m A (Con.fold stp c s)) (λ_=>[]):=by
  refine g_ func178 rfl rfl ntmps178 rfl λG=>?_;refine aQ_ (e_ (cD_ (c:=c) 0 aq_ D_ rfl rfl) rfl (Zz 1 ?_));refine f_ (yM_ d C _ c (yae_ _) y B s _ rfl) rfl (@List.perm_append_comm _ [_] _) (λv _ h=>h) rfl λ_=>Zz 2 ?_
  exact bK_ results178 () rfl (F:=[]) zaP_ zt
theorem mw_ {G:Prop} (h:G:=by
 exact wI_ (G:=[_,_,_]) () (λa v B A=>by rw[<-Q];exact mZ_ 1 results54 isAgg28 rfl rfl a v B A) (fD_ (i:=3) rfl) ⟨_,.refl _⟩ rfl):G:=h
theorem eE_ (c:Con) (K:c.ok):Tri prog 54 #[c.val] [] [c.memF,bB_] (λ_:Unit=>i4_ c.check) (λ_=>[]) (λ_=>[]):=by
 obtain⟨k,nm,lo,hi,ad,cap,ps⟩:=c;refine fA_ func54 rfl rfl ntmps54 rfl λI=>?_;refine Zz 2 ?_;refine F_ rfl rfl λY=>u_ zeroValue28 rfl λd=>Zz 4 ?_
 refine u_ aN_ rfl λS=>n_ 0 K_ rfl rfl rfl rfl rfl rfl (Zz 6 ?_)
 refine nk_ 0 (fits_c _ (.mk k nm lo hi ad cap ps) (yae_ _) K 0 0 S zaa_ zaa_ _ rfl) rfl rfl zf rfl λP T=>e_ (aH_ rfl) rfl (Zz 2 ?_)
 cases P
 .refine Zz 3 ?_;refine n_ 1 sizeOf28 rfl rfl rfl rfl rfl rfl (Zz 3 ?_);exact retM () (λa v B A _=>by rw[mZ_ 1 results54 isAgg28 rfl rfl a v B A];simp[Con.check, *]) (.refl _) zt
 refine Zz 7 ?_;refine f_ (wf_ (.mk k nm lo hi ad cap ps)) rfl (.refl _) zt rfl λb=>Zz 3 ?_
 refine bh_ [(2,zp_ d 0),(10,.func (.func 178) #[] #[zp_ b 0])] zl ?_;refine dO_ (H':=[_,_]) (F:=[_,_]) (.cons _ (.swap _ _ _)) zh ?_;let Pu:Nat×Obj:=(d,.cells #[i4_ 0] 28 (0,0));refine ot_ (α:={c:Con // c.ok}) (xv:=λx=>x.1.val) (good:=λ_=>True) (stp:=λx=>Con.chk x.1) (Γx:=λx=>[x.1.memF,bB_]) (Γi:=[Con.memF (.mk k nm lo hi ad cap ps),bB_]) (Hj:=λ_:Unit=>[Pu]) (Hx:=λt:Int=>[(d,.cells #[i4_ t] 28 (0,0))]) (Hc:=[(b,.cells (Con.mk k nm lo hi ad cap ps).cells.toArray 49 (0,0))]) (caps:=[zp_ b 0]) () (Con.fold Con.chk (.mk k nm lo hi ad cap ps) ()) rfl (.refl _) (λv _ h=>h) ?_ ?_ ?_ ?_
 .rintro l D Z W M L U J H s ⟨x,R⟩ -
  refine mz_ (ι:=Nat) (Hj:=λ_:Unit=>[Pu]) (Hx:=λt:Int=>[(d,.cells #[i4_ t] 28 (0,0))]) (s:=s) (res:=Con.chk x s) (Γ:=[x.memF,bB_]) (λy=>[(2,zp_ d 0),(4,zp_ y 0)]) (λy=>[(y,.cells x.cells.toArray 49 (0,0)),Pu]) W M L U rfl ?_ ?_
  .intro n I N X
   rw[J];refine bz_ ?_;refine sF_ (bo_ _) bP_ rfl λy=>?_;refine ri_ (bo_ _) 0 D_ rfl rfl rfl rfl ?_;refine cA_ ?_;refine du_ rfl ?_;exact eo_ y zl (F:=[]) zaC_ zh
  intro n I N X y;rw[H];refine ht_ ?_;refine gQ_ ?_;refine bz_ ?_;refine bk_ (bo_ _) (cD_ 0 aq_ D_ rfl rfl) rfl rfl ?_;refine vo_ (od_ x R) rfl (.refl _) zf rfl λ_=>?_;refine bk_ (bo_ _) (bs_ rfl) rfl rfl ?_;refine cA_ ?_;refine dQ_ rfl ?_;refine gQ_ ?_;refine bz_ ?_;refine bk_ (bo_ _) (aV_ rfl) rfl rfl ?_;refine vn_ (bo_ _) (aM_ rfl rfl) rfl rfl λO m=>?_;refine cA_ ?_;refine dQ_ rfl ?_;cases O
  .replace m:=eY_ m
   refine qM_ rfl ?_;refine ov_ ?_;refine du_ rfl ?_;exact ow_ () (by simp[Con.chk, *]) (G:=[_]) (@List.perm_append_comm _ [_] _)
  replace m:=eV_ m;refine qL_ rfl ?_;refine gQ_ ?_;refine bz_ ?_;refine bk_ (bo_ _) (aV_ rfl) rfl rfl ?_;refine eU_ (bo_ _) 1 sizeOf28 rfl rfl rfl rfl rfl rfl ?_;refine cA_ ?_;refine dQ_ rfl ?_;refine jW_ ?_;exact uR_ x.fieldErr (by simp[Con.chk, *]) (G:=[_]) (@List.perm_append_comm _ [_] _)
 .intro l Gj Gx V
  exact tF_ (E:=[bB_]) (good:=λ_=>True) (λ_ _ _ _=>trivial) (λs x R _=>V s ⟨x,R⟩ trivial) _ K trivial ()
 .intro s C D l r
  rw[Con.fold_chk _ _ (yae_ _)]at C;refine dQ_ rfl ?_;refine gQ_ ?_;refine bz_ ?_;refine eU_ cl_ 1 sizeOf28 rfl rfl rfl rfl rfl rfl ?_;refine cA_ ?_;refine dQ_ rfl ?_;refine jW_ ?_;have Q:(0:Int)=(Con.mk k nm lo hi ad cap ps).check:=by unfold Con.check;rw[yaq_ zae_];split at C;(rename_i h;exact h.symm);cases C
  exact mw_
 intro t C D l r;rw[Con.fold_chk _ _ (yae_ _)]at C;have Q:t=(Con.mk k nm lo hi ad cap ps).check:=by unfold Con.check;rw[yaq_ zae_];split at C;cases C;injection C with C;exact C.symm
 exact mw_
theorem jk_ {G:Prop} (h:G:=by
 refine Zz 6 ?_;exact met ⟨rfl,rfl,rfl,(p_ rfl (jaf d)),trivial⟩):G:=h
theorem oO_ (c:Con):Fn0 prog 107 #[c.val] (.bool c.empty):=by
 obtain⟨k,nm,lo,hi,ad,cap,ps⟩:=c;refine g_ func107 rfl rfl ntmps107 rfl λJ=>?_;refine Zz 2 ?_;refine F_ rfl rfl λB=>Zz 7 ?_
 refine P_ (by_ rfl rfl) rfl λI x=>Zz 1 ?_
 refine ao_ 4 ((k==0)&&(nm==[])) (λr=>[(0,.agg (Con.cells (Con.mk k nm lo hi ad cap ps)).toArray),(1,zp_ B 0),(2,.bool false),(10,.bool r)]) ?_ λH y=>?_
 .cases I
  .have d:=x
   replace x:=znb x;exact jk_
  have d:=x;replace x:=zeb x;refine Zz 5 ?_;refine P_ (dp_ rfl rfl) rfl λE v=>Zz 3 ?_
  exact met ⟨rfl,rfl,rfl,(p_ rfl (jat d v)),trivial⟩
 refine Zz 1 ?_;refine ao_ 4 ((((k==0)&&(nm==[])))&&(lo==0)) (λr=>[(0,.agg (Con.cells (Con.mk k nm lo hi ad cap ps)).toArray),(1,zp_ B 0),(2,.bool false),(15,.bool r)]) ?_ λE v=>?_
 .cases H
  .have d:=y
   simp at y
   exact jk_
  have d:=y;simp at y
  refine Zz 5 ?_;refine P_ (by_ rfl rfl) rfl λC m=>Zz 3 ?_
  exact met ⟨rfl,rfl,rfl,(p_ rfl (jat d m)),trivial⟩
 refine Zz 1 ?_;refine ao_ 4 ((((((k==0)&&(nm==[])))&&(lo==0)))&&(hi==0)) (λr=>[(0,.agg (Con.cells (Con.mk k nm lo hi ad cap ps)).toArray),(1,zp_ B 0),(2,.bool false),(20,.bool r)]) ?_ λC m=>?_
 .cases E
  .have d:=v
   simp at v
   exact jk_
  have d:=v;simp at v
  refine Zz 5 ?_;refine P_ (by_ rfl rfl) rfl λG A=>Zz 3 ?_
  exact met ⟨rfl,rfl,rfl,(p_ rfl (jat d A)),trivial⟩
 refine Zz 1 ?_;refine ao_ 5 ((((((((k==0)&&(nm==[])))&&(lo==0)))&&(hi==0)))&&((ps.length:Int)==0)) (λr=>[(0,.agg (Con.cells (Con.mk k nm lo hi ad cap ps)).toArray),(2,.bool false),(26,.bool r)]) ?_ λG A=>?_
 .cases C
  .have d:=m
   simp at m
   refine Zz 7 ?_;exact met ⟨rfl,rfl,(p_ rfl (jaf d)),trivial⟩
  have d:=m;simp at m
  refine Zz 7 ?_;refine P_ (by_ rfl rfl) rfl λK F=>Zz 3 ?_
  exact met ⟨rfl,rfl,(p_ rfl (jat d F)),trivial⟩
 refine Zz 4 ?_;exact ac_ results107 () (p_ rfl A.symm) (.refl _) zt
theorem pL_ {g:FuncId} {pred:Con->Bool} (c:Con) (B:c.ok) (H:∀ p∈c.parts,Tri prog g #[p.val] [] [p.memF] (λ_:Unit=>.bool (pred p)) (λ_=>[]) (λ_=>[])) :
    Tri prog 180 #[.slice c.ad c.parts.length c.cap,.func (.func g) #[] #[]] [] [c.memF] (λr:{r:Int // decide (0<=r)=c.parts.any pred}=>i4_ r.1) (λ_=>[]) (λ_=>[]):=by
  obtain⟨k,nm,lo,hi,ad,cap,ps⟩:=c;have y:=Con.ok_len B;simp only[Con.parts,Con.cap]at y;refine g_ func180 rfl rfl ntmps180 rfl λG=>?_;refine Zz 14 ?_;refine bh_ [(0,.slice ad ps.length cap),(1,.func (.func g) #[] #[]),(7,i4_ ps.length),(8,i4_ ((0:Nat):Int))] zl ?_;refine bF_ (ι:={q:Nat // q<=ps.length/\(ps.take q).any pred=false}) (λi=>[(0,.slice ad ps.length cap),(1,.func (.func g) #[] #[]),(7,i4_ ps.length),(8,i4_ i.1)]) (λ_=>_) (λ_=>_) (λi=>ps.length - i.1) ⟨0,by simp⟩ ?_;rintro ⟨i,E⟩;refine bh_ [(0,.slice ad ps.length cap),(1,.func (.func g) #[] #[]),(7,i4_ ps.length),(8,i4_ i)] zl ?_;refine Zj 2 (λx=>?_) λx=>?_
  . refine Zz 12 ?_;exact ac_ results180 ⟨-1,by have:=E.2;rw[yad_ zaa_]at this;show _=ps.any pred;rw[this];rfl⟩ rfl (.refl _) zt
  . have m:i<ps.length:=by omega
    obtain⟨p,A⟩:∃ p,ps[i]? = some p:=⟨_,yaa_ m⟩;have d:p∈ps:=yac_ A;refine Zz 19 ?_;refine e_ (Y_ al_ D_ rfl rfl (λv _ h=>az_ (n:=5) Con.cells_len zac_ (((Con.mem_iff (.mk k nm lo hi ad cap ps) v).1 h.1).1) A) zaa_ zaf_) rfl ?_;refine e_ (ah_ (ad:=ad) (us:=p.cells) aq_ D_ rfl (λv _ h=>((Con.mem_iff (.mk k nm lo hi ad cap ps) v).1 h.1).1) (Con.cells_len _) (y_ Con.cells_len A)) rfl (bJ_ (H p d) rfl rfl (.refl _) (λv _ h=>by exact⟨Con.mem_part (c:=(.mk k nm lo hi ad cap ps)) h.1 d,trivial⟩) rfl λC F=>Zz 2 ?_);cases C
    . refine Zz 8 ?_;exact C_ ⟨i+1,m,by rw[Con.take_snoc A,ydf_,E.2];simp[*]⟩ zal_ zl (.refl _) zh
    . refine Zz 8 ?_;exact ac_ results180 ⟨(i:Int),by show _=ps.any pred;rw[show ps.any pred=true from ycl_.2 ⟨p,d,by assumption⟩];exact yaE_ zaa_⟩ rfl (.refl _) zt
theorem mc_ {g:FuncId} {pred:Con->Bool} (c:Con) (m:c.ok) (y:∀ p∈c.parts,Tri prog g #[p.val] [] [p.memF] (λ_:Unit=>.bool (pred p)) (λ_=>[]) (λ_=>[])) :
    Tri prog 113 #[.slice c.ad c.parts.length c.cap,.func (.func g) #[] #[]] [] [c.memF] (λ_:Unit=>.bool (c.parts.any pred)) (λ_=>[]) (λ_=>[]):=by
  obtain⟨k,nm,lo,hi,ad,cap,ps⟩:=c;refine g_ func113 rfl rfl ntmps113 rfl λB=>?_;refine Zz 9 ?_;refine f_ (pL_ (.mk k nm lo hi ad cap ps) m y) rfl (.refl _) (λv _ h=>h) rfl λx=>P_ (fa_ rfl rfl) rfl λA d=>Zz 4 ?_
  exact ac_ results113 () (p_ rfl (d.symm.trans x.2)) (.refl _) zt
theorem dt_:∀ (m:Nat) (c:Con),c.sz<=m->c.ok->Tri prog 55 #[c.val] [] [c.memF] (λ_:Unit=>.bool c.bare) (λ_=>[]) (λ_=>[]):=by
 intro m
 induction m with
 | zero=>intro c h;have:=c.sz_pos;omega
 | succ m ih =>
   intro c hm d;obtain⟨k,nm,lo,hi,ad,cap,ps⟩:=c;refine g_ func55 rfl rfl ntmps55 rfl λC=>?_;refine Zz 2 ?_;refine F_ rfl rfl λE=>Zj 13 (λx=>?_) λx=>?_
   . refine Zj 6 (λy=>?_) λy=>?_
     . refine Zz 12 ?_;exact ac_ results55 () (p_ rfl zaN_) (.refl _) zt
     . refine Zz 8 ?_;refine aa_ (mc_ (pred:=Con.bare) (.mk k nm lo hi ad cap ps) d (λp A=>ih p (by have:=Con.sz_part (c:=(.mk k nm lo hi ad cap ps)) A;omega) (Con.ok_part (c:=(.mk k nm lo hi ad cap ps)) d A))) rfl (.refl _) (λv _ h=>h) rfl λF B=>?_;refine Zz 4 ?_;exact ac_ results55 () (p_ rfl zaN_) (.refl _) zt
   . refine Zz 10 ?_;exact ac_ results55 () (p_ rfl zaN_) (.refl _) zt
theorem hf_ {G:Prop} (h:G:=by
 refine Zz 7 ?_;exact met ⟨rfl,rfl,rfl,rfl,rfl,rfl,rfl,rfl,rfl,rfl,(p_ rfl (jot rfl)),trivial⟩):G:=h
theorem eL_ {G:Prop} (h:G:=by
 exact met ⟨rfl,rfl,rfl,rfl,rfl,rfl,rfl,rfl,rfl,(p_ rfl (jaf d)),trivial⟩):G:=h
theorem sU_ (x:Ax):Tri prog 52 #[x.val] [] [bB_] (λ_:Unit=>.bool x.shaped) (λ_=>[]) (λ_=>[]):=by
 obtain⟨k,op,⟨kl,N,Q,hl,al,cl,pl⟩,⟨O,K,R,M,E,H,I⟩,ad,cap,X,U,a,b⟩:=x;refine g_ func52 rfl rfl ntmps52 rfl λv_1=>?_;refine Zz 2 ?_;refine F_ rfl rfl λm=>Zz 8 ?_
 refine P_ (cB_ rfl rfl) rfl λr_1 S=>Zz 1 ?_
 refine ao_ 4 ((decide (k<1))||(decide (9<k))) (λr=>[(0,.agg (Ax.cells (Ax.mk k op (Con.mk kl N Q hl al cl pl) (Con.mk O K R M E H I) ad cap X U a b)).toArray),(1,zp_ m 0),(2,.bool false),(11,.bool r)]) ?_ λr_2 hr_2=>?_
 .cases r_1
  .have d:=S
   replace S:=zdf S;refine Zz 5 ?_;refine P_ (cP_ rfl rfl) rfl λr_3 P=>Zz 3 ?_
   exact met (zm (jof d P))
  have d:=S;replace S:=zdt S;refine Zz 6 ?_;exact met ⟨rfl,rfl,rfl,(p_ rfl (jot d)),trivial⟩
 refine Zz 2 ?_;cases r_2
 .simp at hr_2
  obtain⟨u,hx⟩:∃ u,uD_[k.toNat]? = some u:=⟨_,yaa_ (show k.toNat<10 by omega)⟩;have hus:us k=u:=by simp[us,hx]
  obtain⟨L,J,T,V,ub,Y,Z⟩:=u;refine Zz 7 ?_;refine e_ (dk_ runUnderlying130 dG_ rfl rfl zbE_ (by show k<(10:Int);omega)) rfl ?_;refine e_ (ah_ (ad:=some ⟨0,0,none⟩) (us:=Use.cells ⟨L,J,T,V,ub,Y,Z⟩) isAgg129 dG_ rfl (λv _ h=>h.1.2.1) (Use.cells_len _) (y_ Use.cells_len hx)) rfl (u_ zeroValue129 rfl λC=>n_ 0 dG_ rfl rfl rfl rfl rfl rfl (Zz 7 ?_));let Pu:Array Value:=#[.bool L,.bool J,.bool T,.bool V,.bool ub,i4_ Y,i4_ Z];refine ao_ 4 ((L)||(Con.empty (.mk kl N Q hl al cl pl))) (λr=>[(0,.agg (Ax.cells (Ax.mk k op (Con.mk kl N Q hl al cl pl) (Con.mk O K R M E H I) ad cap X U a b)).toArray),(1,zp_ m 0),(2,.bool false),(11,.bool false),(12,zp_ m 0),(13,i4_ k),(14,.pointer (some (rad (some ⟨0,0,none⟩) (k.toNat*7)))),(15,.agg Pu),(3,zp_ C 0),(22,.bool r)]) ?_ λr_3 P=>?_
  .cases L
   .refine Zz 5 ?_;refine aa_ (oO_ (.mk kl N Q hl al cl pl)) rfl (.refl _) zt rfl λr_4 G=>Zz 3 ?_
    exact met (zm (jof rfl G))
   refine Zz 6 ?_;exact met ⟨rfl,rfl,rfl,rfl,rfl,rfl,rfl,rfl,rfl,(p_ rfl (jot rfl)),trivial⟩
  refine Zz 1 ?_;refine ao_ 8 ((((L)||(Con.empty (.mk kl N Q hl al cl pl))))&&(((J)||(Con.empty (.mk O K R M E H I))))) (λr=>[(0,.agg (Ax.cells (Ax.mk k op (Con.mk kl N Q hl al cl pl) (Con.mk O K R M E H I) ad cap X U a b)).toArray),(1,zp_ m 0),(2,.bool false),(11,.bool false),(12,zp_ m 0),(13,i4_ k),(14,.pointer (some (rad (some ⟨0,0,none⟩) (k.toNat*7)))),(15,.agg Pu),(3,zp_ C 0),(31,.bool r)]) ?_ λr_4 G=>?_
  .cases r_3
   .have d:=P
    simp at P
    refine Zz 10 ?_;exact eL_
   have d:=P;simp at P
   refine Zz 6 ?_;refine ao_ 4 ((J)||(Con.empty (.mk O K R M E H I))) (λr=>[(0,.agg (Ax.cells (Ax.mk k op (Con.mk kl N Q hl al cl pl) (Con.mk O K R M E H I) ad cap X U a b)).toArray),(1,zp_ m 0),(2,.bool false),(11,.bool false),(12,zp_ m 0),(13,i4_ k),(14,.pointer (some (rad (some ⟨0,0,none⟩) (k.toNat*7)))),(15,.agg Pu),(3,zp_ C 0),(23,.bool true),(30,.bool r)]) ?_ λr_5 F=>?_
   .cases J
    .refine Zz 5 ?_;refine aa_ (oO_ (.mk O K R M E H I)) rfl (.refl _) zt rfl λr_6 B=>Zz 4 ?_
     exact met (zm (jof rfl B))
    exact hf_
   refine Zz 3 ?_;exact met ⟨rfl,rfl,rfl,rfl,rfl,rfl,rfl,rfl,rfl,(p_ rfl (jat d F)),trivial⟩
  refine Zz 1 ?_;refine ao_ 8 ((((((L)||(Con.empty (.mk kl N Q hl al cl pl))))&&(((J)||(Con.empty (.mk O K R M E H I))))))&&(((T)||(U==[])))) (λr=>[(0,.agg (Ax.cells (Ax.mk k op (Con.mk kl N Q hl al cl pl) (Con.mk O K R M E H I) ad cap X U a b)).toArray),(1,zp_ m 0),(2,.bool false),(11,.bool false),(12,zp_ m 0),(13,i4_ k),(14,.pointer (some (rad (some ⟨0,0,none⟩) (k.toNat*7)))),(15,.agg Pu),(3,zp_ C 0),(40,.bool r)]) ?_ λr_5 F=>?_
  .cases r_4
   .have d:=G
    simp at G
    refine Zz 10 ?_;exact eL_
   have d:=G;simp at G
   refine Zz 6 ?_;refine ao_ 4 ((T)||(U==[])) (λr=>[(0,.agg (Ax.cells (Ax.mk k op (Con.mk kl N Q hl al cl pl) (Con.mk O K R M E H I) ad cap X U a b)).toArray),(1,zp_ m 0),(2,.bool false),(11,.bool false),(12,zp_ m 0),(13,i4_ k),(14,.pointer (some (rad (some ⟨0,0,none⟩) (k.toNat*7)))),(15,.agg Pu),(3,zp_ C 0),(32,.bool true),(39,.bool r)]) ?_ λr_6 B=>?_
   .cases T
    .refine Zz 5 ?_;refine P_ (dp_ rfl rfl) rfl λr_7 A=>Zz 4 ?_
     exact met (zm (jof rfl A))
    exact hf_
   refine Zz 3 ?_;exact met ⟨rfl,rfl,rfl,rfl,rfl,rfl,rfl,rfl,rfl,(p_ rfl (jat d B)),trivial⟩
  refine Zz 1 ?_;refine ao_ 8 ((((((((L)||(Con.empty (.mk kl N Q hl al cl pl))))&&(((J)||(Con.empty (.mk O K R M E H I))))))&&(((T)||(U==[])))))&&(((V)||(a==[])))) (λr=>[(0,.agg (Ax.cells (Ax.mk k op (Con.mk kl N Q hl al cl pl) (Con.mk O K R M E H I) ad cap X U a b)).toArray),(1,zp_ m 0),(2,.bool false),(11,.bool false),(12,zp_ m 0),(13,i4_ k),(14,.pointer (some (rad (some ⟨0,0,none⟩) (k.toNat*7)))),(15,.agg Pu),(3,zp_ C 0),(49,.bool r)]) ?_ λr_6 B=>?_
  .cases r_5
   .have d:=F
    simp at F
    refine Zz 10 ?_;exact eL_
   have d:=F;simp at F
   refine Zz 6 ?_;refine ao_ 4 ((V)||(a==[])) (λr=>[(0,.agg (Ax.cells (Ax.mk k op (Con.mk kl N Q hl al cl pl) (Con.mk O K R M E H I) ad cap X U a b)).toArray),(1,zp_ m 0),(2,.bool false),(11,.bool false),(12,zp_ m 0),(13,i4_ k),(14,.pointer (some (rad (some ⟨0,0,none⟩) (k.toNat*7)))),(15,.agg Pu),(3,zp_ C 0),(41,.bool true),(48,.bool r)]) ?_ λr_7 A=>?_
   .cases V
    .refine Zz 5 ?_;refine P_ (dp_ rfl rfl) rfl λr_8 y=>Zz 4 ?_
     exact met (zm (jof rfl y))
    exact hf_
   refine Zz 3 ?_;exact met ⟨rfl,rfl,rfl,rfl,rfl,rfl,rfl,rfl,rfl,(p_ rfl (jat d A)),trivial⟩
  refine Zz 1 ?_;refine ao_ 8 ((((((((((L)||(Con.empty (.mk kl N Q hl al cl pl))))&&(((J)||(Con.empty (.mk O K R M E H I))))))&&(((T)||(U==[])))))&&(((V)||(a==[])))))&&(((ub)||(b==[])))) (λr=>[(0,.agg (Ax.cells (Ax.mk k op (Con.mk kl N Q hl al cl pl) (Con.mk O K R M E H I) ad cap X U a b)).toArray),(1,zp_ m 0),(2,.bool false),(11,.bool false),(12,zp_ m 0),(13,i4_ k),(14,.pointer (some (rad (some ⟨0,0,none⟩) (k.toNat*7)))),(15,.agg Pu),(3,zp_ C 0),(58,.bool r)]) ?_ λr_7 A=>?_
  .cases r_6
   .have d:=B
    simp at B
    refine Zz 10 ?_;exact eL_
   have d:=B;simp at B
   refine Zz 6 ?_;refine ao_ 4 ((ub)||(b==[])) (λr=>[(0,.agg (Ax.cells (Ax.mk k op (Con.mk kl N Q hl al cl pl) (Con.mk O K R M E H I) ad cap X U a b)).toArray),(1,zp_ m 0),(2,.bool false),(11,.bool false),(12,zp_ m 0),(13,i4_ k),(14,.pointer (some (rad (some ⟨0,0,none⟩) (k.toNat*7)))),(15,.agg Pu),(3,zp_ C 0),(50,.bool true),(57,.bool r)]) ?_ λr_8 y=>?_
   .cases ub
    .refine Zz 5 ?_;refine P_ (dp_ rfl rfl) rfl λr_9 W=>Zz 4 ?_
     exact met (zm (jof rfl W))
    exact hf_
   refine Zz 3 ?_;exact met ⟨rfl,rfl,rfl,rfl,rfl,rfl,rfl,rfl,rfl,(p_ rfl (jat d y)),trivial⟩
  refine Zz 1 ?_;refine ao_ 7 ((((((((((((L)||(Con.empty (.mk kl N Q hl al cl pl))))&&(((J)||(Con.empty (.mk O K R M E H I))))))&&(((T)||(U==[])))))&&(((V)||(a==[])))))&&(((ub)||(b==[])))))&&(decide (Y<=(X.length:Int)))) (λr=>[(0,.agg (Ax.cells (Ax.mk k op (Con.mk kl N Q hl al cl pl) (Con.mk O K R M E H I) ad cap X U a b)).toArray),(1,zp_ m 0),(2,.bool false),(11,.bool false),(12,zp_ m 0),(13,i4_ k),(14,.pointer (some (rad (some ⟨0,0,none⟩) (k.toNat*7)))),(15,.agg Pu),(3,zp_ C 0),(66,.bool r)]) ?_ λr_8 y=>?_
  .cases r_7
   .have d:=A
    simp at A
    refine Zz 9 ?_;exact eL_
   have d:=A;simp at A
   refine Zz 11 ?_;refine P_ (fa_ rfl rfl) rfl λr_9 W=>Zz 3 ?_
   exact met ⟨rfl,rfl,rfl,rfl,rfl,rfl,rfl,rfl,rfl,(p_ rfl (jat d W)),trivial⟩
  refine Zz 1 ?_;refine ao_ 7 ((((((((((((((L)||(Con.empty (.mk kl N Q hl al cl pl))))&&(((J)||(Con.empty (.mk O K R M E H I))))))&&(((T)||(U==[])))))&&(((V)||(a==[])))))&&(((ub)||(b==[])))))&&(decide (Y<=(X.length:Int)))))&&(decide ((X.length:Int)<=Z))) (λr=>[(0,.agg (Ax.cells (Ax.mk k op (Con.mk kl N Q hl al cl pl) (Con.mk O K R M E H I) ad cap X U a b)).toArray),(1,zp_ m 0),(2,.bool false),(11,.bool false),(12,zp_ m 0),(13,i4_ k),(14,.pointer (some (rad (some ⟨0,0,none⟩) (k.toNat*7)))),(15,.agg Pu),(3,zp_ C 0),(74,.bool r)]) ?_ λr_9 W=>?_
  .cases r_8
   .have d:=y
    simp at y
    refine Zz 9 ?_;exact eL_
   have d:=y;simp at y
   refine Zz 11 ?_;refine P_ (dj_ rfl rfl) rfl λr_10 hr_10=>Zz 3 ?_
   exact met ⟨rfl,rfl,rfl,rfl,rfl,rfl,rfl,rfl,rfl,(p_ rfl (jat d hr_10)),trivial⟩
  refine Zz 4 ?_;exact ac_ results52 () (p_ rfl (by unfold Ax.shaped;rw[yaf_ (by simp only[not_or];omega)];simp only[hus];exact W.symm)) (.refl _) zt
 simp at hr_2
 refine Zz 7 ?_;exact ac_ results52 () (p_ rfl (by unfold Ax.shaped;rw[yaq_ (by simpa using hr_2)])) (.refl _) zt
theorem pn (s:Str):(((if aJ_ s then 0 else 20):Int) != 0)=!aJ_ s:=by cases aJ_ s<;>rfl
theorem vw_ (x:Ax) (G:x.ok) (u:Use):Tri prog 53 #[x.val,.agg u.cells.toArray] [] [x.memF] (λ_:Unit=>.bool (x.namedU u)) (λ_=>[]) (λ_=>[]):=by
 obtain⟨k,op,⟨kl,Z,ll,hl,al,cl,pl⟩,⟨kr,V,lr,Y,N,R,T⟩,ad,cap,y,H,a,b⟩:=x;obtain⟨W,U,F,E,ub,um,X⟩:=u;have S:=G.len;have Q:=G.cap;dsimp only at S Q;refine g_ func53 rfl rfl ntmps53 rfl λv_1=>?_;refine Zz 2 ?_;refine F_ rfl rfl λC=>F_ rfl rfl λK=>Zz 9 ?_
 let Pu:Array Value:=#[.bool W,.bool U,.bool F,.bool E,.bool ub,i4_ um,i4_ X];refine ao_ 5 ((F)&&(!(br_ H))) (λr=>[(0,.agg (Ax.cells (Ax.mk k op (Con.mk kl Z ll hl al cl pl) (Con.mk kr V lr Y N R T) ad cap y H a b)).toArray),(1,.agg Pu),(2,zp_ C 0),(3,zp_ K 0),(4,.bool false),(14,.bool r)]) ?_ λr_1 J=>?_
 .cases F
  .refine Zz 7 ?_;exact met ⟨rfl,rfl,rfl,rfl,rfl,(p_ rfl (jaf rfl)),trivial⟩
  refine Zz 5 ?_;refine aa_ (gW_ _) rfl (.refl _) zt rfl λO B=>aP_ rfl rfl (e_ (aH_ rfl) rfl (Zz 3 ?_))
  exact met ⟨rfl,rfl,rfl,rfl,rfl,(p_ rfl (jat rfl (jn B))),trivial⟩
 refine Zz 1 ?_;refine ao_ 9 ((((F)&&(!(br_ H))))||(((E)&&(((if aJ_ a then 0 else 20):Int) != 0)))) (λr=>[(0,.agg (Ax.cells (Ax.mk k op (Con.mk kl Z ll hl al cl pl) (Con.mk kr V lr Y N R T) ad cap y H a b)).toArray),(1,.agg Pu),(2,zp_ C 0),(3,zp_ K 0),(4,.bool false),(24,.bool r)]) ?_ λO B=>?_
 .cases r_1
  .have d:=J
   refine Zz 6 ?_;refine ao_ 5 ((E)&&(((if aJ_ a then 0 else 20):Int) != 0)) (λr=>[(0,.agg (Ax.cells (Ax.mk k op (Con.mk kl Z ll hl al cl pl) (Con.mk kr V lr Y N R T) ad cap y H a b)).toArray),(1,.agg Pu),(2,zp_ C 0),(3,zp_ K 0),(4,.bool false),(15,.bool false),(23,.bool r)]) ?_ λP m=>?_
   .cases E
    .refine Zz 8 ?_;exact met ⟨rfl,rfl,rfl,rfl,rfl,rfl,(p_ rfl (jaf rfl)),trivial⟩
    refine Zz 5 ?_;refine f_ (gB_ _ G.a) rfl (.refl _) zt rfl λ_=>aP_ rfl rfl (P_ (aM_ rfl rfl) rfl λL A=>Zz 4 ?_)
    exact met ⟨rfl,rfl,rfl,rfl,rfl,rfl,(p_ rfl (jat rfl A)),trivial⟩
   refine Zz 3 ?_;exact met (zm (jof d m))
  have d:=J;refine Zz 11 ?_;exact met ⟨rfl,rfl,rfl,rfl,rfl,(p_ rfl (jot d)),trivial⟩
 refine Zz 1 ?_;refine ao_ 9 ((((((F)&&(!(br_ H))))||(((E)&&(((if aJ_ a then 0 else 20):Int) != 0)))))||(((ub)&&(((if aJ_ b then 0 else 20):Int) != 0)))) (λr=>[(0,.agg (Ax.cells (Ax.mk k op (Con.mk kl Z ll hl al cl pl) (Con.mk kr V lr Y N R T) ad cap y H a b)).toArray),(1,.agg Pu),(2,zp_ C 0),(4,.bool false),(34,.bool r)]) ?_ λP m=>?_
 .cases O
  .have d:=B
   refine Zz 6 ?_;refine ao_ 5 ((ub)&&(((if aJ_ b then 0 else 20):Int) != 0)) (λr=>[(0,.agg (Ax.cells (Ax.mk k op (Con.mk kl Z ll hl al cl pl) (Con.mk kr V lr Y N R T) ad cap y H a b)).toArray),(1,.agg Pu),(2,zp_ C 0),(4,.bool false),(25,.bool false),(33,.bool r)]) ?_ λL A=>?_
   .cases ub
    .refine Zz 8 ?_;exact met ⟨rfl,rfl,rfl,rfl,rfl,(p_ rfl (jaf rfl)),trivial⟩
    refine Zz 5 ?_;refine f_ (gB_ _ G.b) rfl (.refl _) zt rfl λ_=>aP_ rfl rfl (P_ (aM_ rfl rfl) rfl λr_5 I=>Zz 4 ?_)
    exact met ⟨rfl,rfl,rfl,rfl,rfl,(p_ rfl (jat rfl I)),trivial⟩
   refine Zz 3 ?_;exact met (zm (jof d A))
  have d:=B;refine Zz 11 ?_;exact met ⟨rfl,rfl,rfl,rfl,(p_ rfl (jot d)),trivial⟩
 refine Zz 2 ?_;cases P
 .refine Zz 13 ?_;refine bh_ [(36,.slice ad y.length cap),(37,i4_ y.length),(38,i4_ ((0:Nat):Int))] zl ?_;refine bF_ (ι:={q:Nat // q<=y.length/\(y.take q).all br_=true}) (λi=>[(36,.slice ad y.length cap),(37,i4_ y.length),(38,i4_ i.1)]) (λ_=>_) (λ_=>_) (λi=>y.length - i.1) ⟨0,by simp⟩ ?_;rintro ⟨i,hk⟩;refine bh_ [(36,.slice ad y.length cap),(37,i4_ y.length),(38,i4_ i)] zl ?_;refine Zj 2 (λA=>?_) λA=>?_
  .refine Zz 12 ?_
   exact ac_ results53 () (p_ rfl (by have hf:y.all br_=true:=(by have:=hk.2;rwa [yad_ zaa_]at this);unfold Ax.namedU;simp only[pn]at m;simp only[hf,m];rfl)) (.refl _) zt
  have M:i<y.length:=by omega
  obtain⟨q,hp⟩:∃ q,y[i]? = some q:=⟨_,yaa_ M⟩;refine Zz 10 ?_;refine e_ (Y_ B_ U_ rfl rfl (λv _ h=>az_ (n:=1) aO_ zac_ (h.1.2.2) hp) zaa_ zaf_) rfl ?_;refine Zz 7 ?_;refine aa_ (gW_ _) rfl (.refl _) zt rfl λL I=>e_ (aH_ rfl) rfl (Zz 2 ?_)
  cases L
  .refine Zz 7 ?_;exact ac_ results53 () (p_ rfl (by have hf:y.all br_=false:=ycX_.2 ⟨q,yac_ hp,by simp[*]⟩;unfold Ax.namedU;simp only[hf,Bool.and_false])) (.refl _) zt
  refine Zz 8 ?_;exact C_ ⟨i+1,M,by rw[yao_,hp];simp only[yaC_,ycQ_,hk.2];simp[*]⟩ zal_ zl (.refl _) zh
 refine Zz 7 ?_;exact ac_ results53 () (p_ rfl (by unfold Ax.namedU;simp only[pn]at m;simp only[m];rfl)) (.refl _) zt
theorem Ax.shaped_kind {x:Ax} (h:x.shaped=true):1<=x.kind/\x.kind<=9:=by
 unfold Ax.shaped at h
 split at h
 .cases h
 rename_i d;simp only[not_or]at d;omega
theorem fP_ {G:Prop} (h:G:=by
 refine Zz 9 ?_;exact dB_):G:=h
theorem eK_ {G:Prop} (h:G:=by
 refine Zz 7 ?_;exact dB_):G:=h
theorem ms_ {G:Prop} (h:G:=by
 refine aa_ (dt_ _ (.mk K I L J F G H) (yae_ _) C.right) rfl (.refl _) (λv _ h=>⟨h.1.2.1,trivial⟩) rfl λy R=>Zz 2 ?_
 exact fQ_):G:=h
theorem mt_ {G:Prop} (h:G:=by
 refine Zz 11 ?_;refine aa_ (dt_ _ (.mk K I L J F G H) (yae_ _) C.right) rfl (.refl _) (λv _ h=>⟨h.1.2.1,trivial⟩) rfl λy m=>Zz 2 ?_
 exact fQ_):G:=h
theorem jj_ {G:Prop} (h:G:=by
 refine aa_ (dt_ _ (.mk K I L J F G H) (yae_ _) C.right) rfl (.refl _) (λv _ h=>⟨h.1.2.1,trivial⟩) rfl λy B=>Zz 2 ?_
 exact fQ_):G:=h
theorem mu_ {G:Prop} (h:G:=by
 cases y
 .have E:=A
  refine Zz 5 ?_;refine aa_ (dt_ _ (.mk K I L J F G H) (yae_ _) C.right) rfl (.refl _) (λv _ h=>⟨h.1.2.1,trivial⟩) rfl λr_5 B=>Zz 3 ?_
  exact met (zm (jof E B))
 have E:=A;refine Zz 6 ?_;exact met ⟨rfl,rfl,rfl,rfl,rfl,rfl,rfl,rfl,rfl,rfl,rfl,rfl,rfl,rfl,rfl,rfl,rfl,rfl,rfl,rfl,rfl,rfl,rfl,rfl,rfl,rfl,rfl,rfl,rfl,(p_ rfl (jot E)),trivial⟩):G:=h
theorem fQ_ {G:Prop} (h:G:=by
 cases y
 .exact fP_
 exact eK_):G:=h
theorem mv_ {G:Prop} (h:G:=by
 refine Zj 7 (λA=>?_) λA=>?_
 .refine Zj 6 (λm=>?_) λm=>?_
  .refine Zj 5 (λB=>?_) λB=>?_
   .refine Zz 12 ?_
    exact dB_
   refine Zz 8 ?_;exact ms_
  refine Zz 11 ?_;exact jj_
 exact mt_):G:=h
theorem dB_ {G:Prop} (h:G:=by
 exact ac_ results18 () (bd_ rfl (by unfold Ax.check;simp only[d];simp_all)) (.refl _) zt):G:=h
theorem fF_ (x:Ax) (C:x.ok):Tri prog 18 #[x.val] [] [x.memF,bB_] (λ_:Unit=>i4_ x.check) (λ_=>[]) (λ_=>[]):=by
 obtain⟨k,W,⟨kl,O,P,hl,al,cl,pl⟩,⟨K,I,L,J,F,G,H⟩,ad,cap,V,U,a,b⟩:=x;refine g_ func18 rfl rfl ntmps18 rfl λv_1=>?_;refine Zz 2 ?_;refine F_ rfl rfl λM=>Zz 7 ?_
 refine aa_ (sU_ ⟨k,W,(.mk kl O P hl al cl pl),(.mk K I L J F G H),ad,cap,V,U,a,b⟩) rfl (.refl _) zf rfl λr_1 hr_1=>e_ (aH_ rfl) rfl (Zz 2 ?_)
 cases r_1
 .refine Zz 7 ?_;exact ac_ results18 () (bd_ rfl (by unfold Ax.check;simp_all)) (.refl _) zt
 have hk_1:1<=k/\k<=9:=Ax.shaped_kind hr_1;obtain⟨u,hx⟩:∃ u,uD_[k.toNat]? = some u:=⟨_,yaa_ (show k.toNat<10 by omega)⟩;have d:us k=u:=by simp[us,hx]
 obtain⟨ul,ur,Z,X,ub,um,Y⟩:=u;refine Zz 7 ?_;refine e_ (dk_ runUnderlying130 dG_ rfl rfl zbE_ (by show k<(10:Int);omega)) rfl ?_;refine e_ (ah_ (ad:=some ⟨0,0,none⟩) (us:=Use.cells ⟨ul,ur,Z,X,ub,um,Y⟩) isAgg129 dG_ rfl (λv _ h=>h.2.1.2.1) (Use.cells_len _) (y_ Use.cells_len hx)) rfl (u_ zeroValue129 rfl λQ=>n_ 0 dG_ rfl rfl rfl rfl rfl rfl (Zz 7 ?_));refine aa_ (vw_ ⟨k,W,(.mk kl O P hl al cl pl),(.mk K I L J F G H),ad,cap,V,U,a,b⟩ C ⟨ul,ur,Z,X,ub,um,Y⟩) rfl (.refl _) zf rfl λr_2 hr_2=>e_ (aH_ rfl) rfl (Zz 2 ?_)
 cases r_2
 .exact eK_
 refine Zz 10 ?_;cases ul
 .refine Zz 10 ?_;cases ur
  .refine Zj 13 (λS=>?_) λS=>?_
   .refine Zj 7 (λN=>?_) λN=>?_
    .refine Zj 6 (λA=>?_) λA=>?_
     .refine Zj 5 (λm=>?_) λm=>?_
      .refine Zz 12 ?_
       exact dB_
      refine Zz 8 ?_;exact jj_
     exact mt_
    refine Zz 11 ?_;refine aa_ (dt_ _ (.mk K I L J F G H) (yae_ _) C.right) rfl (.refl _) (λv _ h=>⟨h.1.2.1,trivial⟩) rfl λy A=>Zz 2 ?_
    exact fQ_
   refine Zz 8 ?_;refine aa_ (dt_ _ (.mk kl O P hl al cl pl) (yae_ _) C.left) rfl (.refl _) (λv _ h=>⟨h.1.1,trivial⟩) rfl λy N=>Zz 1 ?_
   let Pu:Array Value:=#[.bool false,.bool false,.bool Z,.bool X,.bool ub,i4_ um,i4_ Y];refine ao_ 4 ((Con.bare (.mk kl O P hl al cl pl))||(Con.bare (.mk K I L J F G H))) (λr=>[(0,.agg (Ax.cells (Ax.mk k W (Con.mk kl O P hl al cl pl) (Con.mk K I L J F G H) ad cap V U a b)).toArray),(1,zp_ M 0),(2,i4_ 0),(6,.agg (Ax.cells (Ax.mk k W (Con.mk kl O P hl al cl pl) (Con.mk K I L J F G H) ad cap V U a b)).toArray),(7,.bool true),(8,.bool false),(9,zp_ M 0),(10,i4_ k),(11,.pointer (some (rad (some ⟨0,0,none⟩) (k.toNat*7)))),(12,.agg Pu),(3,zp_ Q 0),(13,.agg (Ax.cells (Ax.mk k W (Con.mk kl O P hl al cl pl) (Con.mk K I L J F G H) ad cap V U a b)).toArray),(14,.agg Pu),(15,.bool true),(16,.bool false),(17,zp_ Q 0),(18,.bool false),(25,zp_ Q 1),(26,.bool false),(33,zp_ M 0),(34,i4_ k),(36,.bool true),(35,.bool true),(44,.bool r)]) ?_ λT A=>?_
   .cases y
    .have E:=N
     refine Zz 5 ?_;refine aa_ (dt_ _ (.mk K I L J F G H) (yae_ _) C.right) rfl (.refl _) (λv _ h=>⟨h.1.2.1,trivial⟩) rfl λr_5 m=>Zz 3 ?_
     exact met (zm (jof E m))
    have E:=N;refine Zz 6 ?_;exact met ⟨rfl,rfl,rfl,rfl,rfl,rfl,rfl,rfl,rfl,rfl,rfl,rfl,rfl,rfl,rfl,rfl,rfl,rfl,rfl,rfl,rfl,rfl,rfl,(p_ rfl (jot E)),trivial⟩
   refine Zz 2 ?_;cases T
   .simp at A
    exact fP_
   simp at A
   exact eK_
  refine Zz 5 ?_;refine f_ (eE_ (.mk K I L J F G H) C.right) rfl (.refl _) (λv _ h=>⟨h.1.2.1,h.2.1,trivial⟩) rfl λ_=>Zj 6 (λS=>?_) λS=>?_
  .refine Zj 15 (λN=>?_) λN=>?_
   .exact mv_
   refine Zz 8 ?_;refine aa_ (dt_ _ (.mk kl O P hl al cl pl) (yae_ _) C.left) rfl (.refl _) (λv _ h=>⟨h.1.1,trivial⟩) rfl λy A=>Zz 1 ?_
   let Qu:Array Value:=#[.bool false,.bool true,.bool Z,.bool X,.bool ub,i4_ um,i4_ Y];refine ao_ 4 ((Con.bare (.mk kl O P hl al cl pl))||(Con.bare (.mk K I L J F G H))) (λr=>[(0,.agg (Ax.cells (Ax.mk k W (Con.mk kl O P hl al cl pl) (Con.mk K I L J F G H) ad cap V U a b)).toArray),(1,zp_ M 0),(2,i4_ 0),(6,.agg (Ax.cells (Ax.mk k W (Con.mk kl O P hl al cl pl) (Con.mk K I L J F G H) ad cap V U a b)).toArray),(7,.bool true),(8,.bool false),(9,zp_ M 0),(10,i4_ k),(11,.pointer (some (rad (some ⟨0,0,none⟩) (k.toNat*7)))),(12,.agg Qu),(3,zp_ Q 0),(13,.agg (Ax.cells (Ax.mk k W (Con.mk kl O P hl al cl pl) (Con.mk K I L J F G H) ad cap V U a b)).toArray),(14,.agg Qu),(15,.bool true),(16,.bool false),(17,zp_ Q 0),(18,.bool false),(25,zp_ Q 1),(26,.bool true),(27,zp_ M 7),(28,.agg (Con.cells (Con.mk K I L J F G H)).toArray),(29,i4_ (Con.check (.mk K I L J F G H))),(5,i4_ (Con.check (.mk K I L J F G H))),(30,i4_ (Con.check (.mk K I L J F G H))),(31,.bool false),(33,zp_ M 0),(34,i4_ k),(36,.bool true),(35,.bool true),(44,.bool r)]) ?_ λT m=>?_
   .exact mu_
   refine Zz 2 ?_;cases T
   .simp at m
    exact fP_
   simp at m
   exact eK_
  refine Zz 10 ?_;exact dB_
 refine Zz 5 ?_;refine f_ (eE_ (.mk kl O P hl al cl pl) C.left) rfl (.refl _) (λv _ h=>⟨h.1.1,h.2.1,trivial⟩) rfl λ_=>Zj 6 (λS=>?_) λS=>?_
 .refine Zz 12 ?_
  cases ur
  .refine Zj 13 (λN=>?_) λN=>?_
   .exact mv_
   refine Zz 8 ?_;refine aa_ (dt_ _ (.mk kl O P hl al cl pl) (yae_ _) C.left) rfl (.refl _) (λv _ h=>⟨h.1.1,trivial⟩) rfl λy A=>Zz 1 ?_
   let Ru:Array Value:=#[.bool true,.bool false,.bool Z,.bool X,.bool ub,i4_ um,i4_ Y];refine ao_ 4 ((Con.bare (.mk kl O P hl al cl pl))||(Con.bare (.mk K I L J F G H))) (λr=>[(0,.agg (Ax.cells (Ax.mk k W (Con.mk kl O P hl al cl pl) (Con.mk K I L J F G H) ad cap V U a b)).toArray),(1,zp_ M 0),(2,i4_ 0),(6,.agg (Ax.cells (Ax.mk k W (Con.mk kl O P hl al cl pl) (Con.mk K I L J F G H) ad cap V U a b)).toArray),(7,.bool true),(8,.bool false),(9,zp_ M 0),(10,i4_ k),(11,.pointer (some (rad (some ⟨0,0,none⟩) (k.toNat*7)))),(12,.agg Ru),(3,zp_ Q 0),(13,.agg (Ax.cells (Ax.mk k W (Con.mk kl O P hl al cl pl) (Con.mk K I L J F G H) ad cap V U a b)).toArray),(14,.agg Ru),(15,.bool true),(16,.bool false),(17,zp_ Q 0),(18,.bool true),(19,zp_ M 2),(20,.agg (Con.cells (Con.mk kl O P hl al cl pl)).toArray),(21,i4_ (Con.check (.mk kl O P hl al cl pl))),(4,i4_ (Con.check (.mk kl O P hl al cl pl))),(22,i4_ (Con.check (.mk kl O P hl al cl pl))),(23,.bool false),(25,zp_ Q 1),(26,.bool false),(33,zp_ M 0),(34,i4_ k),(36,.bool true),(35,.bool true),(44,.bool r)]) ?_ λT m=>?_
   .exact mu_
   refine Zz 2 ?_;cases T
   .simp at m
    exact fP_
   simp at m
   exact eK_
  refine Zz 5 ?_;refine f_ (eE_ (.mk K I L J F G H) C.right) rfl (.refl _) (λv _ h=>⟨h.1.2.1,h.2.1,trivial⟩) rfl λ_=>Zj 6 (λN=>?_) λN=>?_
  .refine Zj 15 (λA=>?_) λA=>?_
   .refine Zj 7 (λm=>?_) λm=>?_
    .refine Zj 6 (λB=>?_) λB=>?_
     .refine Zj 5 (λR=>?_) λR=>?_
      .refine Zz 12 ?_
       exact dB_
      refine Zz 8 ?_;refine aa_ (dt_ _ (.mk K I L J F G H) (yae_ _) C.right) rfl (.refl _) (λv _ h=>⟨h.1.2.1,trivial⟩) rfl λy hr_9=>Zz 2 ?_
      exact fQ_
     refine Zz 11 ?_;exact ms_
    refine Zz 11 ?_;exact jj_
   refine Zz 8 ?_;refine aa_ (dt_ _ (.mk kl O P hl al cl pl) (yae_ _) C.left) rfl (.refl _) (λv _ h=>⟨h.1.1,trivial⟩) rfl λy m=>Zz 1 ?_
   let Su:Array Value:=#[.bool true,.bool true,.bool Z,.bool X,.bool ub,i4_ um,i4_ Y];refine ao_ 4 ((Con.bare (.mk kl O P hl al cl pl))||(Con.bare (.mk K I L J F G H))) (λr=>[(0,.agg (Ax.cells (Ax.mk k W (Con.mk kl O P hl al cl pl) (Con.mk K I L J F G H) ad cap V U a b)).toArray),(1,zp_ M 0),(2,i4_ 0),(6,.agg (Ax.cells (Ax.mk k W (Con.mk kl O P hl al cl pl) (Con.mk K I L J F G H) ad cap V U a b)).toArray),(7,.bool true),(8,.bool false),(9,zp_ M 0),(10,i4_ k),(11,.pointer (some (rad (some ⟨0,0,none⟩) (k.toNat*7)))),(12,.agg Su),(3,zp_ Q 0),(13,.agg (Ax.cells (Ax.mk k W (Con.mk kl O P hl al cl pl) (Con.mk K I L J F G H) ad cap V U a b)).toArray),(14,.agg Su),(15,.bool true),(16,.bool false),(17,zp_ Q 0),(18,.bool true),(19,zp_ M 2),(20,.agg (Con.cells (Con.mk kl O P hl al cl pl)).toArray),(21,i4_ (Con.check (.mk kl O P hl al cl pl))),(4,i4_ (Con.check (.mk kl O P hl al cl pl))),(22,i4_ (Con.check (.mk kl O P hl al cl pl))),(23,.bool false),(25,zp_ Q 1),(26,.bool true),(27,zp_ M 7),(28,.agg (Con.cells (Con.mk K I L J F G H)).toArray),(29,i4_ (Con.check (.mk K I L J F G H))),(5,i4_ (Con.check (.mk K I L J F G H))),(30,i4_ (Con.check (.mk K I L J F G H))),(31,.bool false),(33,zp_ M 0),(34,i4_ k),(36,.bool true),(35,.bool true),(44,.bool r)]) ?_ λT B=>?_
   .cases y
    .have E:=m
     refine Zz 5 ?_;refine aa_ (dt_ _ (.mk K I L J F G H) (yae_ _) C.right) rfl (.refl _) (λv _ h=>⟨h.1.2.1,trivial⟩) rfl λr_5 R=>Zz 3 ?_
     exact met (zm (jof E R))
    have E:=m;refine Zz 6 ?_;exact met ⟨rfl,rfl,rfl,rfl,rfl,rfl,rfl,rfl,rfl,rfl,rfl,rfl,rfl,rfl,rfl,rfl,rfl,rfl,rfl,rfl,rfl,rfl,rfl,rfl,rfl,rfl,rfl,rfl,rfl,rfl,rfl,rfl,rfl,rfl,rfl,(p_ rfl (jot E)),trivial⟩
   refine Zz 2 ?_;cases T
   .simp at B
    exact fP_
   simp at B
   exact eK_
  refine Zz 10 ?_;exact dB_
 refine Zz 10 ?_;exact dB_
def prE:Array MapEntry:=#[⟨.int .i64 1,.func (.func 269) #[] #[],0⟩,⟨.int .i64 2,.func (.func 270) #[] #[],1⟩,⟨.int .i64 3,.func (.func 271) #[] #[],2⟩,⟨.int .i64 4,.func (.func 272) #[] #[],3⟩,⟨.int .i64 5,.func (.func 273) #[] #[],4⟩,⟨.int .i64 6,.func (.func 274) #[] #[],5⟩,⟨.int .i64 7,.func (.func 275) #[] #[],6⟩]
def prF (m:Nat):Fct:=cf_ m (.map prE 7)
def prV (m n:Nat):Value:=.agg #[.map (some m),.map (some n)]
theorem elt39:Elt prog 34 9 1 16:=gA_ ig_ (z:=.string ⟨#[]⟩) zad_ rfl zac_
theorem xC_ {b n cap:Nat} (xs:List Str) (d:Str) (I:xs.length=n) {m:Array Value} {T:TypeId} {fz:Nat×Nat} (J:∀ (j:Nat) (x:Str),xs[j]? = some x->m[j]? = some (str x)) (B:xs.length<=cap) (K:xs.length<=1000000) (A:(Lib.join xs d).length<=140737488355328) :
    Tri prog 308 #[.slice (some ⟨b,0,none⟩) n cap,str d] [(b,.cells m T fz)] [bB_] (λ_:Unit=>str (Lib.join xs d)) (λ_=>[(b,.cells m T fz)]) (λ_=>[]):=by
  subst I;refine dl_ (callable func308 rfl rfl) λv C H=>?_;have E:=(C.own _ yau_).1;have e:(xs.map λx=>(⟨x.toArray⟩:ByteArray)).map (·.data.toList)=xs:=by simp[ycO_,Function.comp_def]
  have:=Tryz.strings_Join b 0 cap (xs.map λx=>⟨x.toArray⟩) ⟨d.toArray⟩ v.w (λj x F=>by
    simp only[yaH_,ycC_]at F;obtain⟨y,G,rfl⟩:=F;simp only[World.cell?,E,yba_];exact J j y G) (yaD_.1 E).1 zal_ (by simpa using B) (by rw[e];exact A)
  rw[e,yaO_]at this;exact this.mono λ_ _ q=>⟨q.1,q.2,.inl H.1.2.2.2.1⟩
theorem xF_ (n:Int) (m:-9223372036854775808<=n) (d:n<=9223372036854775807):Tri prog 310 #[i4_ n] [] [bB_] (λ_:Unit=>str (Lib.itoa n)) (λ_=>[]) (λ_=>[]) :=
  dl_ (callable func310 rfl rfl) λv _ h=>(Tryz.strconv_Itoa n m d v.w (uZ_ h.1.2.2.2)).mono (by
    rintro e w' ⟨rfl,k,os,rfl⟩;exact⟨rfl,tp_ _ _ _,.inr (ydx_ _ _)⟩)
theorem tD_ {b n:Nat} (xs:List Str) (y:xs.length=n) {d:Array Value} {T:TypeId} {fz:Nat×Nat} (A:∀ (j:Nat) (x:Str),xs[j]? = some x->d[j]? = some (str x)) (B:xs.length<=1000000) (m:(Lib.join xs [32]).length<=140737488355328) :
    Tri prog 309 #[.slice (some ⟨b,0,none⟩) n n] [(b,.cells d T fz)] [bB_] (λ_:Unit=>str (Lib.join xs [32])) (λ_=>[(b,.cells d T fz)]) (λ_=>[]):=by
  refine g_ func309 rfl rfl ntmps309 rfl λC=>?_;refine Zz 8 ?_;refine f_ (xC_ xs [32] y A (Nat.le_of_eq y) B m) rfl (.refl _) (λv _ h=>h) rfl λ_=>Zz 4 ?_
  exact ac_ results309 () rfl (F:=[]) (.refl _) zt
theorem pr_top (c:Con) (m n:Nat) (d:c.kind=1):Tri prog 269 #[prV m n,c.val] [] [c.memF,prF m,bB_] (λ_:Unit=>str c.text) (λ_=>[]) (λ_=>[]):=by
  obtain⟨k,nm,lo,hi,ad,cap,ps⟩:=c;simp only[Con.kind]at d;refine g_ func269 rfl rfl ntmps269 rfl λv=>?_;refine Zz 2 ?_;refine F_ rfl rfl λx=>F_ rfl rfl λy=>Zz 9 ?_
  exact ac_ results269 () (fe_ rfl zaL_) (.refl _) zt
theorem uY_ (c:Con) (m n:Nat) (d:c.kind=2):Tri prog 270 #[prV m n,c.val] [] [c.memF,prF m,bB_] (λ_:Unit=>str c.text) (λ_=>[]) (λ_=>[]):=by
  obtain⟨k,nm,lo,hi,ad,cap,ps⟩:=c;simp only[Con.kind]at d;refine g_ func270 rfl rfl ntmps270 rfl λv=>?_;refine Zz 2 ?_;refine F_ rfl rfl λx=>F_ rfl rfl λy=>Zz 9 ?_
  exact ac_ results270 () (fe_ rfl zaL_) (.refl _) zt
theorem wS_ (c:Con) (m n:Nat) (d:c.kind=3):Tri prog 271 #[prV m n,c.val] [] [c.memF,prF m,bB_] (λ_:Unit=>str c.text) (λ_=>[]) (λ_=>[]):=by
  obtain⟨k,nm,lo,hi,ad,cap,ps⟩:=c;simp only[Con.kind]at d;refine g_ func271 rfl rfl ntmps271 rfl λv=>?_;refine Zz 2 ?_;refine F_ rfl rfl λx=>F_ rfl rfl λy=>Zz 11 ?_
  exact ac_ results271 () (fe_ rfl zaL_) (.refl _) zt
theorem sx_ (c:Con) (m n:Nat) (d:c.kind=4) (hl:c.name.length<=24):Tri prog 272 #[prV m n,c.val] [] [c.memF,prF m,bB_] (λ_:Unit=>str c.text) (λ_=>[]) (λ_=>[]):=by
  obtain⟨k,nm,lo,hi,ad,cap,ps⟩:=c;simp only[Con.kind]at d;refine g_ func272 rfl rfl ntmps272 rfl λv=>?_;simp only[Con.name]at hl;refine Zz 2 ?_;refine F_ rfl rfl λy=>F_ rfl rfl λx=>Zz 7 ?_
  refine e_ (ct_ rfl rfl (by simp[Con.name];omega)) rfl ?_;refine e_ (ct_ rfl rfl (by simp[Con.name];omega)) rfl ?_;refine Zz 4 ?_;exact ac_ results272 () (fe_ rfl zaL_) (.refl _) zt
theorem mr_ {G:Prop} (h:G:=by
 exact ac_ results307 () (fe_ rfl (by unfold Con.operand;first|exact (yaq_ zae_).symm|exact (yaf_ zae_).symm)) (.refl _) zt):G:=h
theorem sw_ (c:Con) (m n:Nat) (hl:c.text.length<=100000) (x:Tri prog 246 #[prV m n,c.val] [] [c.memF,prF m,bB_] (λ_:Unit=>str c.text) (λ_=>[]) (λ_=>[])):Tri prog 307 #[prV m n,c.val] [] [c.memF,prF m,bB_] (λ_:Unit=>str c.operand) (λ_=>[]) (λ_=>[]):=by
 obtain⟨k,nm,lo,hi,ad,cap,ps⟩:=c;refine g_ func307 rfl rfl ntmps307 rfl λy=>?_;refine Zz 2 ?_;refine F_ rfl rfl λB=>F_ rfl rfl λA=>Zj 8 (λd=>?_) λd=>?_
 .refine Zz 9 ?_
  refine f_ (x) rfl (.refl _) (λv _ h=>h) rfl λ_=>Zz 4 ?_
  exact mr_
 refine Zz 7 ?_;refine f_ (x) rfl (.refl _) (λv _ h=>h) rfl λ_=>?_;refine e_ (ct_ rfl rfl zah_) rfl ?_;refine e_ (ct_ rfl rfl zah_) rfl ?_;refine Zz 4 ?_;exact mr_
theorem fY_ (c:Con) (m n:Nat) {g i:Nat} (x:dh_ prog 3 (i4_ c.kind) prE.toList (some (i,.func (.func g) #[] #[]))) (B:Tri prog g #[prV m n,c.val] [] [c.memF,prF m,bB_] (λ_:Unit=>str c.text) (λ_=>[]) (λ_=>[])):Tri prog 246 #[prV m n,c.val] [] [c.memF,prF m,bB_] (λ_:Unit=>str c.text) (λ_=>[]) (λ_=>[]):=by
  obtain⟨k,nm,lo,hi,ad,cap,ps⟩:=c;refine g_ func246 rfl rfl ntmps246 rfl λd=>?_;refine Zz 2 ?_;refine F_ rfl rfl λA=>F_ rfl rfl λy=>Zz 9 ?_
  refine e_ (hk_ cQ_ rfl rfl (λv _ h=>h.2.1.2) (aU_ o_) x) rfl (Zz 2 ?_);refine T_ (B) rfl rfl (.refl _) zf rfl λ_=>Zz 4 ?_
  exact ac_ results246 () rfl (.refl _) zt
theorem yV_:fH_ prog 316 [(0,1),(1,1)] [.map none,.map none]:=⟨_,zeroValue316,runUnderlying316,λw=>by simp[sizeOf313,sizeOf314]⟩
theorem px_:Tri prog 245 #[] [] [] (λq:Nat×Nat=>prV q.1 q.2) (λ_=>[]) (λq=>[prF q.1]):=by
  refine g_ func245 rfl rfl ntmps245 rfl λA=>?_;refine Zz 2 ?_;refine u_ zeroValue316 rfl λB=>Zz 4 ?_
  refine aX_ rfl λx=>aF_ 0 (.inl rfl) cQ_ rfl rfl rfl rfl (aU_ o_) (ax_ o_ rfl) (aF_ 0 (.inl rfl) cQ_ rfl rfl rfl rfl (aU_ o_) (ax_ o_ rfl) (aF_ 0 (.inl rfl) cQ_ rfl rfl rfl rfl (aU_ o_) (ax_ o_ rfl) (aF_ 0 (.inl rfl) cQ_ rfl rfl rfl rfl (aU_ o_) (ax_ o_ rfl) (aF_ 0 (.inl rfl) cQ_ rfl rfl rfl rfl (aU_ o_) (ax_ o_ rfl) (aF_ 0 (.inl rfl) cQ_ rfl rfl rfl rfl (aU_ o_) (ax_ o_ rfl) (aF_ 0 (.inl rfl) cQ_ rfl rfl rfl rfl (aU_ o_) (ax_ o_ rfl) (Zz 1 ?_)))))))
  refine aX_ rfl λy=>aF_ 0 (.inl rfl) ci_ rfl rfl rfl rfl (aU_ o_) (ax_ o_ rfl) (aF_ 0 (.inl rfl) ci_ rfl rfl rfl rfl (aU_ o_) (ax_ o_ rfl) (aF_ 0 (.inl rfl) ci_ rfl rfl rfl rfl (aU_ o_) (ax_ o_ rfl) (aF_ 0 (.inl rfl) ci_ rfl rfl rfl rfl (aU_ o_) (ax_ o_ rfl) (aF_ 0 (.inl rfl) ci_ rfl rfl rfl rfl (aU_ o_) (ax_ o_ rfl) (aF_ 0 (.inl rfl) ci_ rfl rfl rfl rfl (aU_ o_) (ax_ o_ rfl) (aF_ 0 (.inl rfl) ci_ rfl rfl rfl rfl (aU_ o_) (ax_ o_ rfl) (aF_ 0 (.inl rfl) ci_ rfl rfl rfl rfl (aU_ o_) (ax_ o_ rfl) (aF_ 0 (.inl rfl) ci_ rfl rfl rfl rfl (aU_ o_) (ax_ o_ rfl) (Zz 1 ?_)))))))))
  refine e_ (w_ yV_ rfl rfl) rfl (n_ 2 sizeOf316 rfl rfl rfl rfl rfl rfl (Zz 3 ?_));refine kc_ 1 rfl ?_;exact dI_ (x,y) (λa v d m=>cu_ (us:=[_,_]) 1 results245 isAgg316 sizeOf316 rfl rfl rfl a v d m) (.refl _) zf
theorem pr_and (c:Con) (m n:Nat) (B:c.kind=5) (L:2<=c.parts.length/\c.parts.length<=8) (hl:(Lib.join (c.parts.map Con.operand) [32,97,110,100,32]).length<=140737488355328) (y:∀ p∈c.parts,Tri prog 307 #[prV m n,p.val] [] [p.memF,prF m,bB_] (λ_:Unit=>str p.operand) (λ_=>[]) (λ_=>[])):Tri prog 273 #[prV m n,c.val] [] [c.memF,prF m,bB_] (λ_:Unit=>str c.text) (λ_=>[]) (λ_=>[]):=by
 obtain⟨k,nm,lo,hi,ad,cap,ps⟩:=c;simp only[Con.kind,Con.parts]at B L hl y;refine g_ func273 rfl rfl ntmps273 rfl λP=>?_;refine Zz 2 ?_;refine F_ rfl rfl λd=>F_ rfl rfl λN=>Zz 18 ?_
 refine bh_ [(2,zp_ d 0),(5,.slice none 0 0),(9,.slice ad ps.length cap),(10,i4_ ps.length),(11,i4_ ((0:Nat):Int))] zl ?_;refine bF_ (ι:={q:Nat×Value×Hp // q.1<=ps.length/\ad_ 9 1 q.2.1 q.1 ((ps.take q.1).flatMap λp=>ar_ p.operand) q.2.2}) (λq=>[(2,zp_ d 0),(5,q.1.2.1),(9,.slice ad ps.length cap),(10,i4_ ps.length),(11,i4_ q.1.1)]) (λq=>_::_::q.1.2.2) (λ_=>_) (λq=>ps.length - q.1.1) ⟨(0,.slice none 0 0,[]),by simp,ad_.nil _ _⟩ ?_;rintro ⟨⟨i,sv,Hr⟩,K⟩;dsimp only at K;refine bh_ [(2,zp_ d 0),(5,sv),(9,.slice ad ps.length cap),(10,i4_ ps.length),(11,i4_ i)] zl ?_;refine Zj 2 (λI=>?_) λI=>?_
 .obtain rfl:i=ps.length:=by omega
  obtain⟨g,cp,cur,rfl,rfl,M,Q,R,E⟩:=K.2.some zaa_;rw[ybS_]at E;refine Zz 9 ?_;refine f_ (xC_ (ps.map Con.operand) [32,97,110,100,32] zai_ (om_ (n:=ps.length) (by rw[E,List.flatMap_map])) (by simpa using M) zal_ hl) rfl (@List.perm_append_comm _ [_,_] _) zf rfl λ_=>?_;refine Zz 4 ?_;exact ac_ results273 () (fe_ rfl (by rw[Con.text_eq];simp[Con.kind,Con.parts,B])) (.refl _) zt
 have x:i<ps.length:=by omega
 obtain⟨p,J⟩:∃ p,ps[i]? = some p:=⟨_,yaa_ x⟩;have C:p∈ps:=yac_ J;refine Zz 10 ?_;refine e_ (Y_ al_ D_ rfl rfl (λv _ h=>az_ (n:=5) Con.cells_len zac_ (((Con.mem_iff (.mk k nm lo hi ad cap ps) v).1 h.1).1) J) zaa_ zaf_) rfl ?_;refine e_ (ah_ (ad:=ad) (us:=p.cells) aq_ D_ rfl (λv _ h=>((Con.mem_iff (.mk k nm lo hi ad cap ps) v).1 h.1).1) (Con.cells_len _) (y_ Con.cells_len J)) rfl (u_ bP_ rfl λS=>eS_ 0 D_ rfl rfl rfl rfl (Zz 5 ?_));refine e_ (cD_ 0 aq_ D_ rfl rfl) rfl (f_ (y p C) rfl (.refl _) (λv _ h=>⟨Con.mem_part (c:=(.mk k nm lo hi ad cap ps)) h.1 C,h.2.1,h.2.2.1,trivial⟩) rfl λ_=>M_ B_ U_ at_ rfl rfl rfl rfl rfl rfl λO=>?_);refine am_ elt39 K.2 rfl rfl (@List.perm_append_comm _ [_,_,_,_] _) rfl (ba_ 0 rfl) (hx_ rfl) zaj_ zaa_ rfl λA H G=>?_;refine t_ (@List.perm_append_comm _ _ [_,_,_,_]) (Zz 8 ?_);exact C_ ⟨(i+1,A,H),x,by rw[Con.take_snoc J,yaW_];exact G⟩ zal_ zl (F:=[_,_]) (@List.perm_append_comm _ [_,_] _) zh
theorem zx_ (c:Con) (m n:Nat) (A:c.kind=6) (y:c.parts.length=1) (hl:c.text.length<=140737488355328) (x:∀ p∈c.parts,Tri prog 307 #[prV m n,p.val] [] [p.memF,prF m,bB_] (λ_:Unit=>str p.operand) (λ_=>[]) (λ_=>[])):Tri prog 274 #[prV m n,c.val] [] [c.memF,prF m,bB_] (λ_:Unit=>str c.text) (λ_=>[]) (λ_=>[]):=by
  obtain⟨k,nm,lo,hi,ad,cap,ps⟩:=c;simp only[Con.kind,Con.parts]at A y x;obtain⟨p,rfl⟩:=ycB_.1 y;have B:[p][0]? = some p:=rfl;have d:p∈[p]:=yak_.2 rfl;have C:(Con.mk k nm lo hi ad cap [p]).text=Lib.join [[115,111,109,101],nm,p.operand] [32]:=by rw[Con.text_eq];simp[Con.kind,Con.parts,Con.name,A]
  rw[C]at hl;refine g_ func274 rfl rfl ntmps274 rfl λE=>?_;refine Zz 2 ?_;refine F_ rfl rfl λG=>F_ rfl rfl λF=>Zz 5 ?_
  refine s_ 4 [0,1,2,3,4,5,6] zk zs (Zz 5 ?_);refine S_ rfl (Y_ al_ D_ rfl rfl (λv _ h=>az_ (n:=5) Con.cells_len zac_ (((Con.mem_iff (.mk k nm lo hi ad cap [p]) v).1 h.1).1) B) zaa_ zaf_) rfl ?_;refine S_ rfl (ah_ (ad:=ad) (us:=p.cells) aq_ D_ rfl (λv _ h=>((Con.mem_iff (.mk k nm lo hi ad cap [p]) v).1 h.1).1) (Con.cells_len _) (y_ Con.cells_len B)) rfl (bt_ (l_ 7 rfl zk (f_ (x p d) rfl (.refl _) (λv _ h=>⟨Con.mem_part (c:=.mk k nm lo hi ad cap [p]) h.1 d,h.2.1,h.2.2.1,trivial⟩) rfl λ_=>Zz 3 ?_)));refine l_ 8 rfl zk (M_ B_ U_ at_ rfl rfl rfl rfl rfl rfl λH=>Zz 3 ?_);refine l_ 9 rfl zk (f_ (tD_ [[115,111,109,101],nm,p.operand] rfl (tO_ _) zai_ hl) rfl (.refl _) zf rfl λ_=>Zz 3 ?_);refine s_ 0 [10] zk zs (Zz 5 ?_);exact ac_ results274 () (fe_ rfl C.symm) (.refl _) zt
theorem zw_ (c:Con) (m n:Nat) (d:c.kind=7) (A:c.ok) (hl:c.text.length<=140737488355328):Tri prog 275 #[prV m n,c.val] [] [c.memF,prF m,bB_] (λ_:Unit=>str c.text) (λ_=>[]) (λ_=>[]):=by
  obtain⟨k,nm,lo,hi,ad,cap,ps⟩:=c;simp only[Con.kind]at d;obtain⟨_,_,_,B,x,y,v,_⟩:=A;have C:(Con.mk k nm lo hi ad cap ps).text=Lib.join [nm,[105,110],Lib.itoa lo,[116,111],Lib.itoa hi] [32]:=by rw[Con.text_eq];simp[Con.kind,Con.name,Con.lo,Con.hi,d]
  rw[C]at hl;refine g_ func275 rfl rfl ntmps275 rfl λE=>?_;refine Zz 2 ?_;refine F_ rfl rfl λG=>F_ rfl rfl λF=>Zz 5 ?_
  refine s_ 5 [0,1,2,3,5,6] zk zs (Zz 7 ?_);refine l_ 4 rfl zk (f_ (xF_ _ B x) rfl (.refl _) zf rfl λ_=>Zz 3 ?_);refine l_ 7 rfl zk (f_ (xF_ _ y v) rfl (.refl _) zf rfl λ_=>Zz 3 ?_);refine l_ 8 rfl zk (M_ B_ U_ at_ rfl rfl rfl rfl rfl rfl λH=>Zz 3 ?_);refine l_ 9 rfl zk (f_ (tD_ [nm,[105,110],Lib.itoa lo,[116,111],Lib.itoa hi] rfl (tO_ _) zai_ hl) rfl (.refl _) zf rfl λ_=>Zz 3 ?_);refine s_ 0 [10] zk zs (Zz 5 ?_);exact ac_ results275 () (fe_ rfl C.symm) (.refl _) zt
theorem zv_ (m n:Nat):∀ (d:Nat) (c:Con),c.sz<=d->c.sz<=64->c.ok->c.fine->Tri prog 246 #[prV m n,c.val] [] [c.memF,prF m,bB_] (λ_:Unit=>str c.text) (λ_=>[]) (λ_=>[]):=by
 intro d
 induction d with
 | zero=>intro c h;have:=c.sz_pos;omega
 | succ d ih =>
   intro c J I x B;have F:=Con.fields B;have hl:=Con.text_len _ c (yae_ _) x B
   have A:∀ p∈c.parts,Tri prog 307 #[prV m n,p.val] [] [p.memF,prF m,bB_] (λ_:Unit=>str p.operand) (λ_=>[]) (λ_=>[]):=λp y=>by
     have K:=Con.sz_part y;have hl:=Con.text_len _ p (yae_ _) (Con.ok_part x y) (Con.fine_part B y);exact sw_ p m n zaa_ (ih p zaa_ zaa_ (Con.ok_part x y) (Con.fine_part B y))
   have E:=F.k1;have G:=F.k7;have hm:=F.mo;have C:=F.le;have v:c.kind=1\/c.kind=2\/c.kind=3\/c.kind=4\/c.kind=5\/c.kind=6\/c.kind=7:=by omega
   rcases v with v|v|v|v|v|v|v
   . exact fY_ c m n zaH_ (pr_top c m n v)
   . exact fY_ c m n zaH_ (uY_ c m n v)
   . exact fY_ c m n zaH_ (wS_ c m n v)
   . exact fY_ c m n zaH_ (sx_ c m n v F.nm)
   . have H:c.text=Lib.join (c.parts.map Con.operand) [32,97,110,100,32]:=by rw[Con.text_eq];simp[v]
     rw[v]at hm C;simp[nd,en_]at hm C
     exact fY_ c m n zaH_ (pr_and c m n v ⟨by omega,by omega⟩ (by rw[<-H];omega) A)
   . rw[v]at hm C
     simp[nd,en_]at hm C
     exact fY_ c m n zaH_ (zx_ c m n v zaa_ zaa_ A)
   . exact fY_ c m n zaH_ (zw_ c m n v x zaa_)
theorem qZ_ (c:Con) (v:c.ok):Tri prog 181 #[c.val] [] [c.memF,bB_] (λ_:Unit=>.tuple #[str c.textN,i4_ c.check]) (λ_=>[]) (λ_=>[]):=by
 obtain⟨k,nm,lo,hi,ad,cap,ps⟩:=c;refine g_ func181 rfl rfl ntmps181 rfl λy=>?_;refine Zz 2 ?_;refine F_ rfl rfl λA=>Zz 8 ?_
 refine f_ (eE_ (.mk k nm lo hi ad cap ps) v) rfl (.refl _) zf rfl λ_=>Zj 6 (λd=>?_) λd=>?_
 .obtain⟨m,x⟩:=Con.check_zero d
  refine Zz 7 ?_;refine s_ 4 [1] zk zs (Zz 2 ?_);refine l_ 0 rfl zk (f_ (px_) rfl (.refl _) zt rfl λq=>Zz 3 ?_);refine l_ 2 rfl zk (f_ (zv_ q.1 q.2 _ (.mk k nm lo hi ad cap ps) (yae_ _) x v m) rfl (.refl _) zf rfl λ_=>Zz 3 ?_);refine s_ 0 [3,4] zk zs (Zz 6 ?_);exact hQ_ results181 () rfl rfl (by simp[Con.textN, *]<;>rfl) (.refl _) zt
 refine Zz 11 ?_;exact hQ_ results181 () rfl rfl (by simp[Con.textN, *]<;>rfl) (.refl _) zt
theorem pA_ (c:Con) (d:c.ok):Tri prog 116 #[c.val] [] [c.memF,bB_] (λ_:Unit=>str c.textN) (λ_=>[]) (λ_=>[]):=by
  obtain⟨k,nm,lo,hi,ad,cap,ps⟩:=c;refine g_ func116 rfl rfl ntmps116 rfl λm=>?_;refine Zz 2 ?_;refine F_ rfl rfl λx=>Zz 6 ?_
  refine f_ (qZ_ (.mk k nm lo hi ad cap ps) d) rfl (.refl _) (λv _ h=>h) rfl λ_=>Zz 14 ?_
  exact ac_ results116 () rfl (.refl _) zt
theorem mq_ {G:Prop} (h:G:=by
 exact ac_ results97 () (fe_ rfl (by unfold Con.operandN;simp only[Con.kind,Con.name]at *;simp[*])) (.refl _) zt):G:=h
theorem nq_ (c:Con) (d:c.ok):Tri prog 97 #[c.val] [] [c.memF,bB_] (λ_:Unit=>str c.operandN) (λ_=>[]) (λ_=>[]):=by
 obtain⟨k,nm,lo,hi,ad,cap,ps⟩:=c;refine g_ func97 rfl rfl ntmps97 rfl λx=>?_;refine Zz 2 ?_;refine F_ rfl rfl λy=>Zj 8 (λm=>?_) λm=>?_
 .refine Zz 8 ?_
  refine f_ (pA_ (.mk k nm lo hi ad cap ps) d) rfl (.refl _) (λv _ h=>h) rfl λ_=>Zz 4 ?_
  exact mq_
 refine Zz 6 ?_;refine f_ (pA_ (.mk k nm lo hi ad cap ps) d) rfl (.refl _) (λv _ h=>h) rfl λ_=>?_;refine e_ (ct_ rfl rfl zau_) rfl ?_;refine e_ (ct_ rfl rfl zau_) rfl ?_;refine Zz 4 ?_;exact mq_
theorem ch_ (s:Str) (m:s.length<=140737488351232) :
    Fn0 prog 59 #[str s] (str ([123]++s++[125])):=by
  refine g_ func59 rfl rfl ntmps59 rfl λd=>?_;refine Zz 8 ?_;refine e_ (ct_ rfl rfl zal_) rfl ?_;refine e_ (ct_ rfl rfl zal_) rfl ?_;refine Zz 4 ?_;exact ac_ results59 () rfl (.refl _) zt
theorem fO_ {G:Prop} (h:G:=by
 exact ac_ results58 () (fe_ rfl (by unfold Con.atom;simp only[Con.kind,Con.name]at *;simp[*])) (.refl _) zt):G:=h
theorem bL_ (c:Con) (d:c.ok):Tri prog 58 #[c.val] [] [c.memF,bB_] (λ_:Unit=>str c.atom) (λ_=>[]) (λ_=>[]):=by
 obtain⟨k,nm,lo,hi,ad,cap,ps⟩:=c;refine g_ func58 rfl rfl ntmps58 rfl λB=>?_;refine Zz 2 ?_;refine F_ rfl rfl λC=>Zj 13 (λy=>?_) λy=>?_
 .refine Zj 6 (λA=>?_) λA=>?_
  .refine Zj 6 (λx=>?_) λx=>?_
   .refine Zj 6 (λm=>?_) λm=>?_
    .refine Zz 9 ?_
     refine f_ (pA_ (.mk k nm lo hi ad cap ps) d) rfl (.refl _) (λv _ h=>h) rfl λ_=>?_;refine e_ (ct_ rfl rfl zau_) rfl ?_;refine e_ (ct_ rfl rfl zau_) rfl ?_;refine Zz 4 ?_;exact fO_
    refine Zz 8 ?_;refine f_ (ch_ nm (Con.ok_name d)) rfl (.refl _) zt rfl λ_=>Zz 4 ?_
    exact fO_
   refine Zz 12 ?_;exact fO_
  refine Zz 10 ?_;exact fO_
 refine Zz 10 ?_;exact fO_
theorem eqPc (p q:Pc) (w:World):(Op.equalIn 10000 32 p.val q.val).run prog w=.ok (decide (p=q)) w:=by
  have h:=run_equalIn_struct (P:=prog) w 9999 32 p.cells.toArray q.cells.toArray (by simp only[Program.fieldsOf,fz_]) Tryz.stoodInHeld32;refine h.trans ?_;rw[<-Pc.eqb_eq];simp only[Program.fieldsOf,fz_];exact bD_ rfl au_ rfl rfl (eqI o_ w) (bD_ rfl ae_ rfl rfl (eqS av_ w) (bD_ rfl ae_ rfl rfl (eqS av_ w) (bD_ rfl ae_ rfl rfl (eqS av_ w) (bD_ rfl ae_ rfl rfl (eqS av_ w) (bD_ rfl ae_ rfl rfl (eqS av_ w) (bD_ rfl ae_ rfl rfl (eqS av_ w) (bD_ rfl au_ rfl rfl (eqI o_ w) (bD_ rfl au_ rfl rfl (eqI o_ w) (bD_ rfl au_ rfl rfl (eqI o_ w) (kr_ w))))))))))
theorem eqFc (p q:Fc) (w:World):(Op.equalIn 10000 87 p.val q.val).run prog w=.ok (decide (p=q)) w:=by
  have h:=run_equalIn_struct (P:=prog) w 9999 87 p.cells.toArray q.cells.toArray (by simp only[Program.fieldsOf,underlying87]) Tryz.stoodInHeld87;refine h.trans ?_;rw[<-Fc.eqb_eq];simp only[Program.fieldsOf,underlying87];exact bD_ rfl au_ rfl rfl (eqI o_ w) (bD_ rfl ae_ rfl rfl (eqS av_ w) (bD_ rfl ae_ rfl rfl (eqS av_ w) (bD_ rfl ae_ rfl rfl (eqS av_ w) (bD_ rfl au_ rfl rfl (eqI o_ w) (bD_ rfl au_ rfl rfl (eqI o_ w) (kr_ w))))))
theorem ud_ (p:Pc):hP_ prog 32 p.val:=λe w=>by
 have hi:∀ (n:Int) (w:World),(Instr.checkKey e (9998+1) 3 (.int .i64 n)).run prog w=.ok () w:=λn w=>MapKept.run_checkKey (d:=.int .i64) o_ zbq_ e 9998
 have m:∀ (n:Str) (w:World),(Instr.checkKey e (9998+1) 9 (str n)).run prog w=.ok () w:=λn w=>MapKept.run_checkKey (d:=.string) av_ zaT_ e 9998
 refine ckF (n:=9999) fz_ λf v=>?_;simp only[yan_,yaJ_,ybG_]at v;rcases v with rfl|rfl|rfl|rfl|rfl|rfl|rfl|rfl|rfl|rfl
 .exact⟨rfl,au_,_,rfl,hi _⟩
 .exact⟨rfl,ae_,_,rfl,m _⟩
 .exact⟨rfl,ae_,_,rfl,m _⟩
 .exact⟨rfl,ae_,_,rfl,m _⟩
 .exact⟨rfl,ae_,_,rfl,m _⟩
 .exact⟨rfl,ae_,_,rfl,m _⟩
 .exact⟨rfl,ae_,_,rfl,m _⟩
 .exact⟨rfl,au_,_,rfl,hi _⟩
 .exact⟨rfl,au_,_,rfl,hi _⟩
 exact⟨rfl,au_,_,rfl,hi _⟩
theorem xY_:Elt prog 27 32 10 128:=gA_ ol_ (z:=.agg (Pc.mk 0 [] [] [] [] [] [] 0 0 0).cells.toArray) zad_ rfl zac_
theorem cU_:fH_ prog 32 [(0,1),(1,1),(2,1),(3,1),(4,1),(5,1),(6,1),(7,1),(8,1),(9,1)] [i4_ 0,str [],str [],str [],str [],str [],str [],i4_ 0,i4_ 0,i4_ 0]:=⟨_,O_,runUnderlying32,λw=>by simp[K_,U_]⟩
theorem jo_:fH_ prog 87 [(0,1),(1,1),(2,1),(3,1),(4,1),(5,1)] [i4_ 0,str [],str [],str [],i4_ 0,i4_ 0]:=⟨_,W_,runUnderlying87,λw=>by simp[K_,U_]⟩
structure CS where
  sv:Value
  bm:Nat
  es:Array MapEntry
  clk:Nat
  Hr:Hp
def fp_ (kb:Nat) (frm:Int) (q:CS):Hp:=(kb,.cells #[.int .i64 frm,q.sv,.map (some q.bm)] 73 (0,0))::(q.bm,.map q.es q.clk)::q.Hr
structure CInv (l:List Pc) (q:CS):Prop where
  row:ad_ 32 10 q.sv l.length (l.flatMap Pc.cells) q.Hr
  keys:q.es.toList.map (·.key)=l.map Pc.val
  vals:∀ x∈q.es.toList,x.val=.bool true
theorem CInv.push {l:List Pc} {p:Pc} {sv m:Value} {bm clk:Nat} {es:Array MapEntry} {Hr d:Hp} (h:CInv l ⟨sv,bm,es,clk,Hr⟩) (y:ad_ 32 10 m (l.length+1) (l.flatMap Pc.cells++p.cells) d):CInv (l++[p]) ⟨m,bm,es.push ⟨p.val,.bool true,clk⟩,clk+1,d⟩:=by
 refine⟨?_,?_,?_⟩
 .simpa [yaW_] using y
 .have:=h.keys
  simp only at this;simp[this]
 intro x v;simp only[ycv_,yag_,yak_]at v;rcases v with v|rfl
 .exact h.vals x v
 rfl
theorem cV_ (p:Pc) {kb E:Nat} (frm:Int) (l:List Pc) (q:CS) (C:CInv l q) (P:l.length<=100000) :
    Tri prog 57 #[zp_ kb 0,.slice (some ⟨E,0,none⟩) 1 1] ((E,.cells p.cells.toArray 32 (0,0))::fp_ kb frm q) [] (λ_:{M:CS // CInv (ins frm l p) M}=>.tuple #[]) (λM=>fp_ kb frm M.1) (λ_=>[]):=by
  obtain⟨k,a,b,c,r,s,t,lo,hi,f⟩:=p;obtain⟨sv,bm,es,clk,Hr⟩:=q;refine g_ func57 rfl rfl ntmps57 rfl λR=>?_;refine Zz 8 ?_;refine bh_ [(0,zp_ kb 0),(6,.slice (some ⟨E,0,none⟩) 1 1),(7,i4_ 1),(8,i4_ ((0:Nat):Int))] zl ?_;refine bF_ (ι:={x:Nat×CS // (x.1=0/\x.2=⟨sv,bm,es,clk,Hr⟩)\/(x.1=1/\CInv (ins frm l ⟨k,a,b,c,r,s,t,lo,hi,f⟩) x.2)}) (λx=>[(0,zp_ kb 0),(6,.slice (some ⟨E,0,none⟩) 1 1),(7,i4_ 1),(8,i4_ x.1.1)]) (λx=>_::fp_ kb frm x.1.2) (λ_=>_) (λx=>1 - x.1.1) ⟨(0,⟨sv,bm,es,clk,Hr⟩),.inl ⟨rfl,rfl⟩⟩ ?_;rintro ⟨⟨i,N⟩,O⟩;dsimp only at O;rcases O with⟨rfl,rfl⟩|⟨rfl,Q⟩
  . refine bh_ [(0,zp_ kb 0),(6,.slice (some ⟨E,0,none⟩) 1 1),(7,i4_ 1),(8,i4_ 0)] zl ?_;refine Zj 2 (λm=>?_) λm=>?_
    . exact absurd zac_ m
    . refine Zz 10 ?_;refine e_ (gL_ z_ A_ rfl rfl zac_ zac_) rfl (Zz 1 ?_);refine u_ O_ rfl λH=>n_ 0 A_ rfl rfl rfl rfl rfl rfl (Zz 9 ?_)
      refine n_ 0 K_ rfl rfl rfl rfl rfl rfl (Zz 3 ?_)
      by_cases hm:(⟨k,a,b,c,r,s,t,lo,hi,frm⟩:Pc)∈l
      . obtain⟨j,K⟩:=(hH_ fz_ (λp q w=>eqPc p q w) (⟨k,a,b,c,r,s,t,lo,hi,frm⟩:Pc) l es.toList C.keys).2 hm C.vals;refine Zz 1 ?_;refine s_ 0 [0,1,2,3,4,5,6] zk zs (Zz 5 ?_);refine S_ rfl (hk_ jV_ rfl rfl (λv h _=>(h.own _ (yac_ (i:=3) rfl)).1) (ud_ (⟨k,a,b,c,r,s,t,lo,hi,frm⟩:Pc)) K) rfl (S_ rfl (aH_ rfl) rfl (Zz 11 ?_));exact C_ ⟨(1,⟨sv,bm,es,clk,Hr⟩),.inr ⟨rfl,by simp only[ins,yaq_ hm];exact C⟩⟩ ydD_ zl (F:=[_]) (@List.perm_append_comm _ [_] _) zh
      . have K:=(hH_ fz_ (λp q w=>eqPc p q w) (⟨k,a,b,c,r,s,t,lo,hi,frm⟩:Pc) l es.toList C.keys).1 hm;refine Zz 1 ?_;refine s_ 0 [0,1,2,3,4,5,6] zk zs (Zz 5 ?_);refine S_ rfl (hj_ jV_ bO_ rfl rfl (λv h _=>(h.own _ (yac_ (i:=3) rfl)).1) (ud_ (⟨k,a,b,c,r,s,t,lo,hi,frm⟩:Pc)) K) rfl (S_ rfl (aH_ rfl) rfl (Zz 5 ?_));refine V_ [(H,.cells #[i4_ k,str a,str b,str c,str r,str s,str t,i4_ lo,i4_ hi,i4_ frm] 32 (0,0)),(E,.cells #[i4_ k,str a,str b,str c,str r,str s,str t,i4_ lo,i4_ hi,i4_ f] 32 (0,0)),(kb,.cells #[i4_ frm,sv,.map (some bm)] 73 (0,0))] zk ?_;refine s_ 1 [0,1,2,3,4] zk (λ_ a b=>⟨Vw.sat.sub a,b⟩) (Zz 6 ?_);refine l_ 5 rfl zk (aF_ 3 (.inr rfl) jV_ rfl rfl rfl rfl (ud_ (⟨k,a,b,c,r,s,t,lo,hi,frm⟩:Pc)) K (Zz 2 ?_));refine H_ (λ_ a b=>⟨Vw.sat.sub a,b⟩) (Zz 2 ?_);refine V_ [(H,.cells #[i4_ k,str a,str b,str c,str r,str s,str t,i4_ lo,i4_ hi,i4_ frm] 32 (0,0))] zk ?_;refine s_ 6 [0,1,2,3,5] zk (λ_ a b=>⟨Vw.sat.sub a,b⟩) (Zz 6 ?_);refine do_ 4 6 rfl rfl zk ?_ ?_
        . refine Zz 3 ?_;refine H_ (λ_ a b=>⟨Vw.sat.sub a,b⟩) (l_ 6 rfl zk (M_ z_ A_ O_ rfl rfl rfl rfl rfl rfl λL=>Zz 2 ?_));refine H_ (λ_ a b=>⟨Vw.sat.sub a.tail,b⟩) (l_ 7 rfl zk (am_ (news:=Pc.cells (⟨k,a,b,c,r,s,t,lo,hi,frm⟩:Pc)) xY_ C.row rfl rfl (@List.perm_append_comm _ [_,_,_,_,_] _) rfl (ba_ 0 rfl) (hx_ rfl) zaj_ zaa_ rfl λG I d=>?_));refine t_ (@List.perm_append_comm _ _ [_,_,_,_,_]) ?_;obtain⟨A,B,y,rfl,rfl,J⟩:=d.some zaa_;refine Zz 2 ?_;refine H_ (λ_ a b=>⟨Vw.sat.sub a.tail,b⟩) (s_ 1 [8,9] zk (λ_ a b=>⟨Vw.sat.sub a.tail,b⟩) (Zz 3 ?_));refine l_ 10 rfl zk (n_ 3 cj_ rfl rfl rfl rfl rfl rfl (Zz 2 ?_));refine H_ (λ_ a b=>⟨Vw.sat.sub a.tail,b⟩) (Zz 7 ?_);exact C_ ⟨(1,⟨.slice (some ⟨A,0,none⟩) (l.length+1) B,bm,es.push ⟨Pc.val (⟨k,a,b,c,r,s,t,lo,hi,frm⟩:Pc),.bool true,clk⟩,clk+1,[(A,.cells y 32 (0,0))]⟩),.inr ⟨rfl,by simp only[ins,yaf_ hm];exact C.push d⟩⟩ ydD_ zl (F:=[_,_]) (@List.perm_append_comm _ [_,_] _) zh
        . refine M_ z_ A_ O_ rfl rfl rfl rfl rfl rfl λL=>Zz 2 ?_
          refine H_ (λ_ a b=>⟨Vw.sat.sub a.tail,b⟩) (l_ 4 rfl zk (Zz 3 ?_));refine H_ (λ_ a b=>⟨Vw.sat.sub a.tail,b⟩) (l_ 7 rfl zk (am_ (news:=Pc.cells (⟨k,a,b,c,r,s,t,lo,hi,frm⟩:Pc)) xY_ C.row rfl rfl (@List.perm_append_comm _ [_,_,_,_,_] _) rfl (ba_ 0 rfl) (hx_ rfl) zaj_ zaa_ rfl λG I d=>?_));refine t_ (@List.perm_append_comm _ _ [_,_,_,_,_]) ?_;obtain⟨A,B,y,rfl,rfl,J⟩:=d.some zaa_;refine Zz 2 ?_;refine H_ (λ_ a b=>⟨Vw.sat.sub a.tail,b⟩) (s_ 1 [8,9] zk (λ_ a b=>⟨Vw.sat.sub a.tail,b⟩) (Zz 3 ?_));refine l_ 10 rfl zk (n_ 3 cj_ rfl rfl rfl rfl rfl rfl (Zz 2 ?_));refine H_ (λ_ a b=>⟨Vw.sat.sub a.tail,b⟩) (Zz 7 ?_);exact C_ ⟨(1,⟨.slice (some ⟨A,0,none⟩) (l.length+1) B,bm,es.push ⟨Pc.val (⟨k,a,b,c,r,s,t,lo,hi,frm⟩:Pc),.bool true,clk⟩,clk+1,[(A,.cells y 32 (0,0))]⟩),.inr ⟨rfl,by simp only[ins,yaf_ hm];exact C.push d⟩⟩ ydD_ zl (F:=[_,_]) (@List.perm_append_comm _ [_,_] _) zh
  . refine bh_ [(0,zp_ kb 0),(6,.slice (some ⟨E,0,none⟩) 1 1),(7,i4_ 1),(8,i4_ 1)] zl ?_;refine Zj 2 (λm=>?_) λm=>?_
    . refine Zz 6 ?_;exact bK_ results57 ⟨N,Q⟩ rfl (F:=[_]) (@List.perm_append_comm _ [_] _) zt
    . exact absurd m zac_
theorem strt73:fH_ prog 73 [(0,1),(1,1),(2,1)] [i4_ 0,.slice none 0 0,.map none]:=⟨_,zeroValue73,runUnderlying73,λw=>by simp[K_,cj_,sizeOf71]⟩
theorem gb_ (frm:Int):Tri prog 19 #[i4_ frm] [] [] (λx:Nat×Nat=>zp_ x.1 0) (λx=>fp_ x.1 frm ⟨.slice none 0 0,x.2,#[],0,[]⟩) (λ_=>[]):=by
  refine g_ func19 rfl rfl ntmps19 rfl λv=>?_;refine Zz 8 ?_;refine aX_ rfl λm=>e_ (w_ strt73 rfl rfl) rfl (F_ rfl rfl λd=>Zz 4 ?_)
  exact ac_ results19 (d,m) rfl (F:=[]) (.refl _) zt
def kF (b kb:Nat):Fct:=cf_ b (.cells [zp_ kb 0].toArray 68 (0,0))
def lFn (b bk:Nat):Value:=.func (.func 114) #[] #[zp_ b 0,zp_ bk 0]
def lF (b bk:Nat):Fct:=cf_ b (.cells [lFn b bk].toArray 126 (0,0))
def rFn (b bk:Nat):Value:=.func (.func 115) #[] #[zp_ bk 0,zp_ b 0]
def rcF (b bk:Nat):Fct:=cf_ b (.cells [rFn b bk].toArray 126 (0,0))
theorem po_ (kb:Nat):Tri prog 56 #[zp_ kb 0] [] [] (λx:Nat×Nat×Nat=>.tuple #[lFn x.2.1 x.1,rFn x.2.2 x.1]) (λ_=>[]) (λx=>[kF x.1 kb,lF x.2.1 x.1,rcF x.2.2 x.1]):=by
  refine g_ func56 rfl rfl ntmps56 rfl λB=>?_;refine Zz 2 ?_;refine F_ rfl rfl λd=>u_ zeroValue126 rfl λm=>u_ zeroValue126 rfl λy=>Zz 4 ?_
  refine e_ (aR_ rfl rfl) rfl (n_ 1 sizeOf126 rfl rfl rfl rfl rfl rfl (Zz 4 ?_));refine e_ (aR_ rfl rfl) rfl (n_ 0 sizeOf126 rfl rfl rfl rfl rfl rfl (Zz 4 ?_));refine s_ 2 [0,1] zk zs (Zz 3 ?_);refine l_ 2 rfl zk (n_ 1 sizeOf126 rfl rfl rfl rfl rfl rfl (Zz 3 ?_));refine l_ 3 rfl zk (n_ 0 sizeOf126 rfl rfl rfl rfl rfl rfl (Zz 6 ?_));refine kc_ 0 rfl ?_;refine kc_ 0 rfl ?_;refine kc_ 0 rfl ?_;exact retG (d,m,y) (λa v A C h=>zs_ results56 jF_ jF_ A rfl rfl (nm_ (cs:=[lFn m d]) 0 h.2.1 rfl) (nm_ (cs:=[rFn y d]) 0 h.2.2.1 rfl)) (F:=[]) (.refl _) zf
theorem Con.mem_tail {c:Con} (d:c.ok) {v:Vw} (h:c.mem v):bl_ v (sad c.ad c.cap 1 5) ((c.parts.drop 1).flatMap Con.cells):=by
  have:=((Con.mem_iff c v).1 h).1.slice Con.cells_len (Con.ok_len d).1 1 c.parts.length;rwa [yad_ zai_]at this
theorem Con.drop_at {ps:List Con} {p:Con} {i:Nat} (d:ps[i]? = some p):ps.drop i=p::ps.drop (i+1):=by
  have hi:=(yab_.1 d).1;rw[yaa_ hi]at d;simp only[yam_]at d;subst d;exact yaZ_ hi
theorem Con.szs_append:∀ (xs ys:List Con),Con.sz.szs (xs++ys)=Con.sz.szs xs+Con.sz.szs ys
  | [],ys=>by simp[Con.sz.szs]
  | x::xs,ys=>by simp only[yav_,Con.sz.szs,Con.szs_append xs ys];omega
theorem Con.sz_at {ps:List Con} {p:Con} {i:Nat} (d:ps[i]? = some p):Con.sz.szs (ps.take i)+p.sz<=Con.sz.szs ps:=by
  have e:Con.sz.szs ps=Con.sz.szs (ps.take i++(p::ps.drop (i+1))):=by rw[<-Con.drop_at d,ybA_]
  rw[e,Con.szs_append];simp only[Con.sz.szs];omega
theorem Con.lefts_len (frm:Int) (ps:List Con) (i:Nat) (l:List Pc):(Con.leftP.lefts frm (ps.take i) l).length+(ps.take i).length<=l.length+2*Con.sz.szs (ps.take i):=by
  generalize ps.take i=qs
  induction qs generalizing l with
  | nil=>simp[Con.leftP.lefts]
  | cons p qs ih =>
    have d:=Con.leftP_len frm _ p (yae_ _) l;have m:=ih (p.leftP frm l);simp only[Con.leftP.lefts,Con.sz.szs,yai_];omega
theorem Con.rights_len (frm:Int) (a:Str) (ps:List Con) (i:Nat) (l:List Pc):(Con.rightP.rights frm a (ps.take i) l).length<=l.length+2*Con.sz.szs (ps.take i):=by
  generalize ps.take i=qs
  induction qs generalizing l with
  | nil=>simp[Con.rightP.rights]
  | cons p qs ih =>
    have d:=bC_ frm l ⟨1,a,[],p.atom,[],[],[],0,0,0⟩;have m:=Con.rightP_len frm _ p (yae_ _) (ins frm l ⟨1,a,[],p.atom,[],[],[],0,0,0⟩);have v:=ih (p.rightP frm (ins frm l ⟨1,a,[],p.atom,[],[],[],0,0,0⟩));simp only[Con.rightP.rights,Con.sz.szs];omega
theorem Con.headD_atom {ps:List Con} {p:Con} (d:ps[0]? = some p):(ps.map Con.atom).headD []=p.atom:=by cases ps<;>simp_all
theorem Con.leftP5 {c:Con} (h:c.kind=5) (frm:Int) (l:List Pc):c.leftP frm l=Con.andP frm c (c.parts.drop 1) 1 ((c.parts.map Con.atom).headD []) (Con.leftP.lefts frm c.parts l):=by rw[Con.leftP_eq,yaq_ h]
theorem Con.leftP6 {c p:Con} (h:c.kind=6) (d:c.parts=[p]) (frm:Int) (l:List Pc):c.leftP frm l=ins frm (p.leftP frm l) ⟨4,p.atom,[],c.atom,c.name,[],[],0,0,0⟩:=by
  rw[Con.leftP_eq,yaf_ zaa_,yaq_ h,d];rfl
theorem Con.leftP7 {c:Con} (h:c.kind=7) (frm:Int) (l:List Pc):c.leftP frm l=ins frm l ⟨9,[],[],c.atom,c.name,[],[],c.lo,c.hi,0⟩:=by rw[Con.leftP_eq,yaf_ zaa_,yaf_ zaa_,yaq_ h]
theorem Con.leftP0 {c:Con} (m:c.kind≠5) (v:c.kind≠6) (d:c.kind≠7) (frm:Int) (l:List Pc):c.leftP frm l=l:=by rw[Con.leftP_eq,yaf_ m,yaf_ v,yaf_ d]
theorem Con.rightP5 {c:Con} (h:c.kind=5) (frm:Int) (l:List Pc):c.rightP frm l=Con.rightP.rights frm c.atom c.parts l:=by rw[Con.rightP_eq,yaq_ h]
theorem Con.rightP6 {c p:Con} (h:c.kind=6) (d:c.parts=[p]) (frm:Int) (l:List Pc):c.rightP frm l=p.rightP frm (ins frm l ⟨3,c.atom,[],p.atom,c.name,[],[],0,0,0⟩):=by
  rw[Con.rightP_eq,yaf_ zaa_,yaq_ h,d];rfl
theorem Con.rightP7 {c:Con} (h:c.kind=7) (frm:Int) (l:List Pc):c.rightP frm l=ins frm l ⟨8,c.atom,[],[],c.name,[],[],c.lo,c.hi,0⟩:=by rw[Con.rightP_eq,yaf_ zaa_,yaf_ zaa_,yaq_ h]
theorem Con.rightP0 {c:Con} (m:c.kind≠5) (v:c.kind≠6) (d:c.kind≠7) (frm:Int) (l:List Pc):c.rightP frm l=l:=by rw[Con.rightP_eq,yaf_ m,yaf_ v,yaf_ d]
theorem wn_:fH_ prog 49 [(0,1),(1,1),(2,1),(3,1),(4,1)] [i4_ 0,str [],i4_ 0,i4_ 0,.slice none 0 0]:=⟨_,bP_,runUnderlying49,λw=>by simp[K_,U_,sizeOf47]⟩
theorem gd_ {kb bk bs:Nat} {frm:Int}:∀ (d:Nat) (c:Con),c.sz<=d->c.ok->c.fine->∀ (l:List Pc) (q:CS),CInv l q->l.length+2*c.sz<=100000->
    Tri prog 114 #[c.val,zp_ bs 0,zp_ bk 0] (fp_ kb frm q) [c.memF,bB_,kF bk kb,lF bs bk] (λ_:{X:CS // CInv (c.leftP frm l) X}=>.tuple #[]) (λX=>fp_ kb frm X.1) (λ_=>[]):=by
  intro d
  induction d with
  | zero=>intro c h;have:=c.sz_pos;omega
  | succ d ih =>
    intro c hd y Y l q W hl;have F:=Con.fields Y;have K:=F.le;have J:=F.mo;obtain⟨k,nm,lo,hi,ad,cap,ps⟩:=c;have R:=Con.ok_len y;have hsz:(Con.mk k nm lo hi ad cap ps).sz=1+Con.sz.szs ps:=by simp only[Con.sz]
    have hsl:=Con.szs_len ps;simp only[Con.parts,Con.cap,Con.kind]at R K J;refine g_ func114 rfl rfl ntmps114 rfl λv_1=>?_;refine Zz 2 ?_;refine F_ rfl rfl λC=>Zj 11 (λN=>?_) λN=>?_
    . refine Zj 6 (λE=>?_) λE=>?_
      . refine Zj 6 (λI=>?_) λI=>?_
        . refine Zz 6 ?_;exact bK_ results114 ⟨q,(by rw[Con.leftP0 (c:=(.mk k nm lo hi ad cap ps)) zae_ zae_ zae_];exact W)⟩ rfl (F:=[_]) (@List.perm_append_comm _ [_] _) zt
        . refine Zz 4 ?_;refine V_ [(C,.cells (Con.cells (Con.mk k nm lo hi ad cap ps)).toArray 49 (0,0))] zk ?_;refine s_ 4 [0,1,2,3,4,5,6,7] zk (λ_ a b=>⟨Vw.sat.sub a,b⟩) (S_ rfl (da_ (cs:=[zp_ kb 0]) sV_ rfl (λv _ h=>h.2.2.1) rfl) rfl (Zz 8 ?_));refine l_ 8 rfl zk (f_ (bL_ (.mk k nm lo hi ad cap ps) y) rfl (.refl _) zf rfl λ_=>Zz 2 ?_);refine H_ (λ_ a b=>⟨Vw.sat.sub a,b⟩) (s_ 2 [9] zk (λ_ a b=>⟨Vw.sat.sub a,b⟩) (S_ rfl (w_ cU_ rfl rfl) rfl (bt_ (l_ 10 rfl zk (M_ z_ A_ O_ rfl rfl rfl rfl rfl rfl λL=>Zz 2 ?_)))));refine H_ (λ_ a b=>⟨Vw.sat.sub a.tail,b⟩) (l_ 11 rfl zk (f_ (cV_ ⟨9,[],[],Con.atom (.mk k nm lo hi ad cap ps),nm,[],[],lo,hi,0⟩ frm l q W zaa_) rfl (.cons _ (@List.perm_append_comm _ [_] _)) zt rfl λx=>?_));obtain⟨G,A⟩:=x;refine t_ (@List.perm_append_comm _ _ [_]) (Zz 2 ?_);refine H_ (λ_ a b=>⟨Vw.sat.sub a,b⟩) (Zz 2 ?_);exact bK_ results114 ⟨G,(by rw[Con.leftP7 (c:=(.mk k nm lo hi ad cap ps)) zae_];exact A)⟩ rfl (F:=[_]) (@List.perm_append_comm _ [_] _) zt
      . rw[E]at K J;simp[nd,en_]at K J
        obtain⟨p,T⟩:=ycB_.1 (show ps.length=1 by omega);have B:ps[0]? = some p:=by rw[T];rfl
        have m:p∈ps:=yac_ B;refine Zz 5 ?_;refine V_ [(C,.cells (Con.cells (Con.mk k nm lo hi ad cap ps)).toArray 49 (0,0))] zk ?_;refine s_ 1 [0,1,2,3,4] zk (λ_ a b=>⟨Vw.sat.sub a,b⟩) (S_ rfl (da_ (cs:=[lFn bs bk]) jF_ rfl (λv _ h=>h.2.2.2.1) rfl) rfl (Zz 2 ?_));refine S_ rfl (Y_ al_ D_ rfl rfl (λv _ h=>az_ (n:=5) Con.cells_len zac_ (((Con.mem_iff (.mk k nm lo hi ad cap ps) v).1 h.1).1) B) zaa_ zaf_) rfl ?_;refine S_ rfl (ah_ (ad:=ad) (us:=p.cells) aq_ D_ rfl (λv _ h=>((Con.mem_iff (.mk k nm lo hi ad cap ps) v).1 h.1).1) (Con.cells_len _) (y_ Con.cells_len B)) rfl (bt_ (l_ 5 rfl zk (T_ (ih p zaA_ (Con.ok_part (c:=(.mk k nm lo hi ad cap ps)) y m) (Con.fine_part (c:=(.mk k nm lo hi ad cap ps)) Y m) l q W (by have:=Con.sz_at B;omega)) rfl rfl (@List.perm_append_comm _ [_] _) (λv _ h=>by exact⟨Con.mem_part (c:=(.mk k nm lo hi ad cap ps)) h.1 m,h.2⟩) rfl λx=>?_)));obtain⟨G,A⟩:=x;refine t_ (@List.perm_append_comm _ _ [_]) (Zz 2 ?_);refine H_ (λ_ a b=>⟨Vw.sat.sub a,b⟩) (Zz 2 ?_);refine V_ [(C,.cells (Con.cells (Con.mk k nm lo hi ad cap ps)).toArray 49 (0,0))] zk ?_;refine s_ 5 [0,1,2,3,4,5,6,8] zk (λ_ a b=>⟨Vw.sat.sub a,b⟩) (S_ rfl (da_ (cs:=[zp_ kb 0]) sV_ rfl (λv _ h=>h.2.2.1) rfl) rfl (Zz 4 ?_));refine S_ rfl (Y_ al_ D_ rfl rfl (λv _ h=>az_ (n:=5) Con.cells_len zac_ (((Con.mem_iff (.mk k nm lo hi ad cap ps) v).1 h.1).1) B) zaa_ zaf_) rfl ?_;refine S_ rfl (ah_ (ad:=ad) (us:=p.cells) aq_ D_ rfl (λv _ h=>((Con.mem_iff (.mk k nm lo hi ad cap ps) v).1 h.1).1) (Con.cells_len _) (y_ Con.cells_len B)) rfl (Zz 2 ?_);refine l_ 7 rfl zk (f_ (bL_ p (Con.ok_part (c:=(.mk k nm lo hi ad cap ps)) y m)) rfl (.refl _) (λv _ h=>⟨Con.mem_part (c:=(.mk k nm lo hi ad cap ps)) h.1 m,h.2.1,trivial⟩) rfl λ_=>Zz 2 ?_);refine H_ (λ_ a b=>⟨Vw.sat.sub a,b⟩) (l_ 9 rfl zk (f_ (bL_ (.mk k nm lo hi ad cap ps) y) rfl (.refl _) zf rfl λ_=>Zz 2 ?_));refine H_ (λ_ a b=>⟨Vw.sat.sub a,b⟩) (s_ 2 [10] zk (λ_ a b=>⟨Vw.sat.sub a,b⟩) (S_ rfl (w_ cU_ rfl rfl) rfl (bt_ (l_ 11 rfl zk (M_ z_ A_ O_ rfl rfl rfl rfl rfl rfl λL=>Zz 2 ?_)))));refine H_ (λ_ a b=>⟨Vw.sat.sub a.tail,b⟩) (l_ 12 rfl zk (f_ (cV_ ⟨4,p.atom,[],Con.atom (.mk k nm lo hi ad cap ps),nm,[],[],0,0,0⟩ frm (p.leftP frm l) G A (by have:=Con.leftP_len frm _ p (yae_ _) l;have:=Con.sz_at B;omega)) rfl (.cons _ (@List.perm_append_comm _ [_] _)) zt rfl λx=>?_));obtain⟨H,Q⟩:=x;refine t_ (@List.perm_append_comm _ _ [_]) (Zz 2 ?_);refine H_ (λ_ a b=>⟨Vw.sat.sub a,b⟩) (Zz 2 ?_);exact bK_ results114 ⟨H,(by rw[Con.leftP6 (c:=(.mk k nm lo hi ad cap ps)) (p:=p) zae_ T];exact Q)⟩ rfl (F:=[_]) (@List.perm_append_comm _ [_] _) zt
    . rw[N]at K J;simp[nd,en_]at K J
      refine Zz 14 ?_;refine bh_ [(1,zp_ bs 0),(2,zp_ bk 0),(3,zp_ C 0),(15,.slice ad ps.length cap),(16,i4_ ps.length),(17,i4_ ((0:Nat):Int))] zl ?_;refine bF_ (ι:={x:Nat×CS // x.1<=ps.length/\CInv (Con.leftP.lefts frm (ps.take x.1) l) x.2}) (λx=>[(1,zp_ bs 0),(2,zp_ bk 0),(3,zp_ C 0),(15,.slice ad ps.length cap),(16,i4_ ps.length),(17,i4_ x.1.1)]) (λx=>_::fp_ kb frm x.1.2) (λ_=>_) (λx=>ps.length - x.1.1) ⟨(0,q),by simp,by simpa [Con.leftP.lefts] using W⟩ ?_;rintro ⟨⟨i,G⟩,V⟩;dsimp only at V;refine bh_ [(1,zp_ bs 0),(2,zp_ bk 0),(3,zp_ C 0),(15,.slice ad ps.length cap),(16,i4_ ps.length),(17,i4_ i)] zl ?_;refine Zj 2 (λE=>?_) λE=>?_
      . obtain rfl:i=ps.length:=by omega
        rw[ybS_]at V;obtain⟨p,B⟩:∃ p,ps[0]? = some p:=⟨_,yaa_ (show 0<ps.length by omega)⟩;have m:p∈ps:=yac_ B;refine Zz 10 ?_;refine e_ (Y_ al_ D_ rfl rfl (λv _ h=>az_ (n:=5) Con.cells_len zac_ (((Con.mem_iff (.mk k nm lo hi ad cap ps) v).1 h.1).1) B) zaa_ zaf_) rfl ?_;refine e_ (ah_ (ad:=ad) (us:=p.cells) aq_ D_ rfl (λv _ h=>((Con.mem_iff (.mk k nm lo hi ad cap ps) v).1 h.1).1) (Con.cells_len _) (y_ Con.cells_len B)) rfl (f_ (bL_ p (Con.ok_part (c:=(.mk k nm lo hi ad cap ps)) y m)) rfl (.refl _) (λv _ h=>⟨Con.mem_part (c:=(.mk k nm lo hi ad cap ps)) h.1 m,h.2.1,trivial⟩) rfl λ_=>Zz 7 ?_);refine e_ (di_ (i:=1) (j:=ps.length) (kl:=.i64) (kh:=.i64) al_ D_ rfl rfl rfl zaa_ (by first|omega|(simp only[Con.cap];omega))) rfl ?_;refine Zz 5 ?_;refine bh_ [(1,zp_ bs 0),(2,zp_ bk 0),(3,zp_ C 0),(6,str p.atom),(32,.slice (sad ad cap 1 5) (ps.length - 1) (cap - 1)),(33,i4_ ((ps.length - 1:Nat):Int)),(34,i4_ ((0:Nat):Int))] zl ?_;have hh:=Con.headD_atom B;have S:=Con.lefts_len frm ps ps.length l;rw[ybS_]at S;generalize p.atom=f0 at hh ⊢
        refine bF_ (ι:={x:Nat×Str×List Pc×CS // x.1<=ps.length - 1/\CInv x.2.2.1 x.2.2.2/\x.2.2.1.length<=(Con.leftP.lefts frm ps l).length+x.1/\Con.andP frm (.mk k nm lo hi ad cap ps) (ps.drop 1) 1 f0 (Con.leftP.lefts frm ps l)=Con.andP frm (.mk k nm lo hi ad cap ps) (ps.drop (1+x.1)) (1+x.1) x.2.1 x.2.2.1}) (λx=>[(1,zp_ bs 0),(2,zp_ bk 0),(3,zp_ C 0),(6,str x.1.2.1),(32,.slice (sad ad cap 1 5) (ps.length - 1) (cap - 1)),(33,i4_ ((ps.length - 1:Nat):Int)),(34,i4_ x.1.1)]) (λx=>_::fp_ kb frm x.1.2.2.2) (λ_=>_) (λx=>ps.length - 1 - x.1.1) ⟨(0,f0,(Con.leftP.lefts frm ps l),G),by simp,V.2,by simp,rfl⟩ ?_;rintro ⟨⟨i,f,P,H⟩,U⟩;dsimp only at U;refine bh_ [(1,zp_ bs 0),(2,zp_ bk 0),(3,zp_ C 0),(6,str f),(32,.slice (sad ad cap 1 5) (ps.length - 1) (cap - 1)),(33,i4_ ((ps.length - 1:Nat):Int)),(34,i4_ i)] zl ?_;refine Zj 2 (λI=>?_) λI=>?_
        . refine Zz 6 ?_;exact bK_ results114 ⟨H,(by have e:=U.2.2.2;rw[yaP_ (show ps.length<=1+i by omega)]at e;rw[Con.leftP5 (c:=(.mk k nm lo hi ad cap ps)) zae_];simp only[Con.parts,hh];rw[e];exact U.2.1)⟩ rfl (F:=[_]) (@List.perm_append_comm _ [_] _) zt
        . have O:i<ps.length - 1:=by omega
          obtain⟨p,B⟩:∃ p,(ps.drop 1)[i]? = some p:=⟨_,yaa_ zal_⟩;have M:ps[1+i]? = some p:=by rw[<-ybP_];exact B
          have m:p∈ps:=yac_ M;refine Zz 11 ?_;refine e_ (Y_ al_ D_ rfl rfl (λv _ h=>az_ (n:=5) Con.cells_len zac_ ((Con.mem_tail (c:=(.mk k nm lo hi ad cap ps)) y h.1)) B) zaa_ zaf_) rfl ?_;refine e_ (ah_ (ad:=(sad ad cap 1 5)) (us:=p.cells) aq_ D_ rfl (λv _ h=>(Con.mem_tail (c:=(.mk k nm lo hi ad cap ps)) y h.1)) (Con.cells_len _) (y_ Con.cells_len B)) rfl (u_ bP_ rfl λL=>Zz 1 ?_);refine eS_ 0 D_ rfl rfl rfl rfl (Zz 8 ?_);refine e_ (aj_ (di_ (i:=0) (j:=i+2) (kl:=.i64) (kh:=.i64) al_ D_ rfl rfl rfl zaa_ (by first|omega|(simp only[Con.cap];omega))) (show _=Value.slice (sad ad cap 0 5) (ps.take (i+2)).length (cap - 0) by rw[yat_,ybn_ zaa_];rfl)) rfl ?_;refine e_ (w_ wn_ rfl rfl) rfl (f_ (bL_ (Con.pre (.mk k nm lo hi ad cap ps) (i+2)) (Con.pre_ok y _)) rfl (.refl _) (λv _ h=>⟨Con.pre_mem y h.1 _,h.2.1,trivial⟩) rfl λ_=>Zz 4 ?_);refine V_ [(L,.cells p.cells.toArray 49 (0,0)),(C,.cells (Con.cells (Con.mk k nm lo hi ad cap ps)).toArray 49 (0,0))] zk ?_;refine s_ 4 [0,1,2,4] zk (λ_ a b=>⟨Vw.sat.sub a,b⟩) (S_ rfl (da_ (cs:=[zp_ kb 0]) sV_ rfl (λv _ h=>h.2.2.1) rfl) rfl (Zz 1 ?_));refine S_ rfl (cD_ 0 aq_ D_ rfl rfl) rfl (Zz 2 ?_);refine l_ 3 rfl zk (f_ (bL_ p (Con.ok_part (c:=(.mk k nm lo hi ad cap ps)) y m)) rfl (.refl _) (λv _ h=>⟨Con.mem_part (c:=(.mk k nm lo hi ad cap ps)) h.1 m,h.2.1,trivial⟩) rfl λ_=>Zz 2 ?_);refine H_ (λ_ a b=>⟨Vw.sat.sub a,b⟩) (s_ 2 [5] zk (λ_ a b=>⟨Vw.sat.sub a,b⟩) (S_ rfl (w_ cU_ rfl rfl) rfl (bt_ (l_ 6 rfl zk (M_ z_ A_ O_ rfl rfl rfl rfl rfl rfl λb_3=>Zz 2 ?_)))));refine H_ (λ_ a b=>⟨Vw.sat.sub a.tail,b⟩) (l_ 7 rfl zk (f_ (cV_ ⟨2,f,p.atom,(Con.pre (.mk k nm lo hi ad cap ps) (i+2)).atom,[],[],[],0,0,0⟩ frm P H U.2.1 zaa_) rfl (.cons _ (@List.perm_append_comm _ [_,_] _)) zt rfl λx=>?_));obtain⟨Z,A⟩:=x;refine t_ (@List.perm_append_comm _ _ [_,_]) (Zz 2 ?_);refine H_ (λ_ a b=>⟨Vw.sat.sub a,b⟩) (Zz 12 ?_);exact C_ ⟨(i+1,(Con.pre (.mk k nm lo hi ad cap ps) (i+2)).atom,(ins frm P ⟨2,f,p.atom,(Con.pre (.mk k nm lo hi ad cap ps) (i+2)).atom,[],[],[],0,0,0⟩),Z),by omega,A,by have:=bC_ frm P ⟨2,f,p.atom,(Con.pre (.mk k nm lo hi ad cap ps) (i+2)).atom,[],[],[],0,0,0⟩;dsimp only;omega,by rw[U.2.2.2,Con.drop_at M];simp only[Con.andP];rw[show 1+i+1=i+2 by omega,show 1+(i+1)=i+2 by omega]⟩ zal_ zl (F:=[_]) (@List.perm_append_comm _ [_] _) zh
      . have O:i<ps.length:=by omega
        obtain⟨p,B⟩:∃ p,ps[i]? = some p:=⟨_,yaa_ O⟩;have m:p∈ps:=yac_ B;refine Zz 10 ?_;refine e_ (Y_ al_ D_ rfl rfl (λv _ h=>az_ (n:=5) Con.cells_len zac_ (((Con.mem_iff (.mk k nm lo hi ad cap ps) v).1 h.1).1) B) zaa_ zaf_) rfl ?_;refine e_ (ah_ (ad:=ad) (us:=p.cells) aq_ D_ rfl (λv _ h=>((Con.mem_iff (.mk k nm lo hi ad cap ps) v).1 h.1).1) (Con.cells_len _) (y_ Con.cells_len B)) rfl (u_ bP_ rfl λL=>eS_ 0 D_ rfl rfl rfl rfl (Zz 3 ?_));refine e_ (da_ (cs:=[lFn bs bk]) jF_ rfl (λv _ h=>h.2.2.2.1) rfl) rfl (e_ (cD_ 0 aq_ D_ rfl rfl) rfl (T_ (ih p zaA_ (Con.ok_part (c:=(.mk k nm lo hi ad cap ps)) y m) (Con.fine_part (c:=(.mk k nm lo hi ad cap ps)) Y m) (Con.leftP.lefts frm (ps.take i) l) G V.2 (by have:=Con.lefts_len frm ps i l;have:=Con.sz_at B;omega)) rfl rfl (@List.perm_append_comm _ [_,_] _) (λv _ h=>by exact⟨Con.mem_part (c:=(.mk k nm lo hi ad cap ps)) h.1 m,h.2⟩) rfl λx=>?_));obtain⟨H,A⟩:=x;refine t_ (@List.perm_append_comm _ _ [_,_]) (Zz 7 ?_);exact C_ ⟨(i+1,H),O,by rw[Con.lefts_step frm B];exact A⟩ zal_ zl (F:=[_]) (@List.perm_append_comm _ [_] _) zh
theorem ev_ {kb bk bs:Nat} {frm:Int}:∀ (d:Nat) (c:Con),c.sz<=d->c.ok->c.fine->∀ (l:List Pc) (q:CS),CInv l q->l.length+2*c.sz<=100000->
    Tri prog 115 #[c.val,zp_ bk 0,zp_ bs 0] (fp_ kb frm q) [c.memF,bB_,kF bk kb,rcF bs bk] (λ_:{T:CS // CInv (c.rightP frm l) T}=>.tuple #[]) (λT=>fp_ kb frm T.1) (λ_=>[]):=by
  intro d
  induction d with
  | zero=>intro c h;have:=c.sz_pos;omega
  | succ d ih =>
    intro c hd A U l q S hl;have F:=Con.fields U;have J:=F.le;have I:=F.mo;obtain⟨k,nm,lo,hi,ad,cap,ps⟩:=c;have O:=Con.ok_len A;have Y:(Con.mk k nm lo hi ad cap ps).sz=1+Con.sz.szs ps:=by simp only[Con.sz]
    have W:=Con.szs_len ps;simp only[Con.parts,Con.cap,Con.kind]at O J I;refine g_ func115 rfl rfl ntmps115 rfl λX=>?_;refine Zz 2 ?_;refine F_ rfl rfl λB=>Zj 11 (λK=>?_) λK=>?_
    . refine Zj 6 (λC=>?_) λC=>?_
      . refine Zj 6 (λQ=>?_) λQ=>?_
        . refine Zz 6 ?_;exact bK_ results115 ⟨q,(by rw[Con.rightP0 (c:=(.mk k nm lo hi ad cap ps)) zae_ zae_ zae_];exact S)⟩ rfl (F:=[_]) (@List.perm_append_comm _ [_] _) zt
        . refine Zz 4 ?_;refine V_ [(B,.cells (Con.cells (Con.mk k nm lo hi ad cap ps)).toArray 49 (0,0))] zk ?_;refine s_ 4 [0,1,3,4,5,6,7,8] zk (λ_ a b=>⟨Vw.sat.sub a,b⟩) (S_ rfl (da_ (cs:=[zp_ kb 0]) sV_ rfl (λv _ h=>h.2.2.1) rfl) rfl (Zz 8 ?_));refine l_ 2 rfl zk (f_ (bL_ (.mk k nm lo hi ad cap ps) A) rfl (.refl _) zf rfl λ_=>Zz 2 ?_);refine H_ (λ_ a b=>⟨Vw.sat.sub a,b⟩) (s_ 2 [9] zk (λ_ a b=>⟨Vw.sat.sub a,b⟩) (S_ rfl (w_ cU_ rfl rfl) rfl (bt_ (l_ 10 rfl zk (M_ z_ A_ O_ rfl rfl rfl rfl rfl rfl λL=>Zz 2 ?_)))));refine H_ (λ_ a b=>⟨Vw.sat.sub a.tail,b⟩) (l_ 11 rfl zk (f_ (cV_ ⟨8,Con.atom (.mk k nm lo hi ad cap ps),[],[],nm,[],[],lo,hi,0⟩ frm l q S zaa_) rfl (.cons _ (@List.perm_append_comm _ [_] _)) zt rfl λx=>?_));obtain⟨G,y⟩:=x;refine t_ (@List.perm_append_comm _ _ [_]) (Zz 2 ?_);refine H_ (λ_ a b=>⟨Vw.sat.sub a,b⟩) (Zz 2 ?_);exact bK_ results115 ⟨G,(by rw[Con.rightP7 (c:=(.mk k nm lo hi ad cap ps)) zae_];exact y)⟩ rfl (F:=[_]) (@List.perm_append_comm _ [_] _) zt
      . rw[C]at J I;simp[nd,en_]at J I
        obtain⟨p,P⟩:=ycB_.1 (show ps.length=1 by omega);have E:ps[0]? = some p:=by rw[P];rfl
        have m:p∈ps:=yac_ E;refine Zz 5 ?_;refine V_ [(B,.cells (Con.cells (Con.mk k nm lo hi ad cap ps)).toArray 49 (0,0))] zk ?_;refine s_ 5 [0,1,3,4,5,6,7,8] zk (λ_ a b=>⟨Vw.sat.sub a,b⟩) (S_ rfl (da_ (cs:=[zp_ kb 0]) sV_ rfl (λv _ h=>h.2.2.1) rfl) rfl (Zz 5 ?_));refine S_ rfl (Y_ al_ D_ rfl rfl (λv _ h=>az_ (n:=5) Con.cells_len zac_ (((Con.mem_iff (.mk k nm lo hi ad cap ps) v).1 h.1).1) E) zaa_ zaf_) rfl ?_;refine S_ rfl (ah_ (ad:=ad) (us:=p.cells) aq_ D_ rfl (λv _ h=>((Con.mem_iff (.mk k nm lo hi ad cap ps) v).1 h.1).1) (Con.cells_len _) (y_ Con.cells_len E)) rfl (bt_ (l_ 2 rfl zk (f_ (bL_ (.mk k nm lo hi ad cap ps) A) rfl (.refl _) zf rfl λ_=>Zz 2 ?_)));refine H_ (λ_ a b=>⟨Vw.sat.sub a,b⟩) (l_ 9 rfl zk (f_ (bL_ p (Con.ok_part (c:=(.mk k nm lo hi ad cap ps)) A m)) rfl (.refl _) (λv _ h=>⟨Con.mem_part (c:=(.mk k nm lo hi ad cap ps)) h.1 m,h.2.1,trivial⟩) rfl λ_=>Zz 2 ?_));refine H_ (λ_ a b=>⟨Vw.sat.sub a,b⟩) (s_ 2 [10] zk (λ_ a b=>⟨Vw.sat.sub a,b⟩) (S_ rfl (w_ cU_ rfl rfl) rfl (bt_ (l_ 11 rfl zk (M_ z_ A_ O_ rfl rfl rfl rfl rfl rfl λL=>Zz 2 ?_)))));refine H_ (λ_ a b=>⟨Vw.sat.sub a.tail,b⟩) (l_ 12 rfl zk (f_ (cV_ ⟨3,Con.atom (.mk k nm lo hi ad cap ps),[],p.atom,nm,[],[],0,0,0⟩ frm l q S zaa_) rfl (.cons _ (@List.perm_append_comm _ [_] _)) zt rfl λx=>?_));obtain⟨G,y⟩:=x;refine t_ (@List.perm_append_comm _ _ [_]) (Zz 2 ?_);refine H_ (λ_ a b=>⟨Vw.sat.sub a,b⟩) (Zz 2 ?_);refine V_ [(B,.cells (Con.cells (Con.mk k nm lo hi ad cap ps)).toArray 49 (0,0))] zk ?_;refine s_ 1 [0,1,2,3,4] zk (λ_ a b=>⟨Vw.sat.sub a,b⟩) (S_ rfl (da_ (cs:=[rFn bs bk]) jF_ rfl (λv _ h=>h.2.2.2.1) rfl) rfl (Zz 2 ?_));refine S_ rfl (Y_ al_ D_ rfl rfl (λv _ h=>az_ (n:=5) Con.cells_len zac_ (((Con.mem_iff (.mk k nm lo hi ad cap ps) v).1 h.1).1) E) zaa_ zaf_) rfl ?_;refine S_ rfl (ah_ (ad:=ad) (us:=p.cells) aq_ D_ rfl (λv _ h=>((Con.mem_iff (.mk k nm lo hi ad cap ps) v).1 h.1).1) (Con.cells_len _) (y_ Con.cells_len E)) rfl (bt_ (l_ 5 rfl zk (T_ (ih p zaA_ (Con.ok_part (c:=(.mk k nm lo hi ad cap ps)) A m) (Con.fine_part (c:=(.mk k nm lo hi ad cap ps)) U m) (ins frm l ⟨3,Con.atom (.mk k nm lo hi ad cap ps),[],p.atom,nm,[],[],0,0,0⟩) G y (by have:=bC_ frm l ⟨3,Con.atom (.mk k nm lo hi ad cap ps),[],p.atom,nm,[],[],0,0,0⟩;have:=Con.sz_at E;omega)) rfl rfl (@List.perm_append_comm _ [_] _) (λv _ h=>by exact⟨Con.mem_part (c:=(.mk k nm lo hi ad cap ps)) h.1 m,h.2⟩) rfl λx=>?_)));obtain⟨M,H⟩:=x;refine t_ (@List.perm_append_comm _ _ [_]) (Zz 2 ?_);refine H_ (λ_ a b=>⟨Vw.sat.sub a,b⟩) (Zz 2 ?_);exact bK_ results115 ⟨M,(by rw[Con.rightP6 (c:=(.mk k nm lo hi ad cap ps)) (p:=p) zae_ P];exact H)⟩ rfl (F:=[_]) (@List.perm_append_comm _ [_] _) zt
    . rw[K]at J I;simp[nd,en_]at J I
      refine Zz 13 ?_;refine bh_ [(1,zp_ bk 0),(2,zp_ bs 0),(3,zp_ B 0),(11,.slice ad ps.length cap),(12,i4_ ps.length),(13,i4_ ((0:Nat):Int))] zl ?_;refine bF_ (ι:={x:Nat×CS // x.1<=ps.length/\CInv (Con.rightP.rights frm (Con.atom (.mk k nm lo hi ad cap ps)) (ps.take x.1) l) x.2}) (λx=>[(1,zp_ bk 0),(2,zp_ bs 0),(3,zp_ B 0),(11,.slice ad ps.length cap),(12,i4_ ps.length),(13,i4_ x.1.1)]) (λx=>_::fp_ kb frm x.1.2) (λ_=>_) (λx=>ps.length - x.1.1) ⟨(0,q),by simp,by simpa [Con.rightP.rights] using S⟩ ?_;rintro ⟨⟨i,G⟩,R⟩;dsimp only at R;refine bh_ [(1,zp_ bk 0),(2,zp_ bs 0),(3,zp_ B 0),(11,.slice ad ps.length cap),(12,i4_ ps.length),(13,i4_ i)] zl ?_;refine Zj 2 (λC=>?_) λC=>?_
      . obtain rfl:i=ps.length:=by omega
        rw[ybS_]at R;refine Zz 6 ?_;exact bK_ results115 ⟨G,(by rw[Con.rightP5 (c:=(.mk k nm lo hi ad cap ps)) zae_];exact R.2)⟩ rfl (F:=[_]) (@List.perm_append_comm _ [_] _) zt
      . have N:i<ps.length:=by omega
        obtain⟨p,E⟩:∃ p,ps[i]? = some p:=⟨_,yaa_ N⟩;have m:p∈ps:=yac_ E;refine Zz 10 ?_;refine e_ (Y_ al_ D_ rfl rfl (λv _ h=>az_ (n:=5) Con.cells_len zac_ (((Con.mem_iff (.mk k nm lo hi ad cap ps) v).1 h.1).1) E) zaa_ zaf_) rfl ?_;refine e_ (ah_ (ad:=ad) (us:=p.cells) aq_ D_ rfl (λv _ h=>((Con.mem_iff (.mk k nm lo hi ad cap ps) v).1 h.1).1) (Con.cells_len _) (y_ Con.cells_len E)) rfl (u_ bP_ rfl λL=>eS_ 0 D_ rfl rfl rfl rfl (Zz 3 ?_));refine V_ [(L,.cells p.cells.toArray 49 (0,0)),(B,.cells (Con.cells (Con.mk k nm lo hi ad cap ps)).toArray 49 (0,0))] zk ?_;refine s_ 5 [0,1,3] zk (λ_ a b=>⟨Vw.sat.sub a,b⟩) (S_ rfl (da_ (cs:=[zp_ kb 0]) sV_ rfl (λv _ h=>h.2.2.1) rfl) rfl (Zz 1 ?_));refine S_ rfl (cD_ 0 aq_ D_ rfl rfl) rfl (bt_ (l_ 2 rfl zk (f_ (bL_ (.mk k nm lo hi ad cap ps) A) rfl (.refl _) zf rfl λ_=>Zz 2 ?_)));refine H_ (λ_ a b=>⟨Vw.sat.sub a,b⟩) (l_ 4 rfl zk (f_ (bL_ p (Con.ok_part (c:=(.mk k nm lo hi ad cap ps)) A m)) rfl (.refl _) (λv _ h=>⟨Con.mem_part (c:=(.mk k nm lo hi ad cap ps)) h.1 m,h.2.1,trivial⟩) rfl λ_=>Zz 2 ?_));refine H_ (λ_ a b=>⟨Vw.sat.sub a,b⟩) (s_ 2 [5] zk (λ_ a b=>⟨Vw.sat.sub a,b⟩) (S_ rfl (w_ cU_ rfl rfl) rfl (bt_ (l_ 6 rfl zk (M_ z_ A_ O_ rfl rfl rfl rfl rfl rfl λZ=>Zz 2 ?_)))));refine H_ (λ_ a b=>⟨Vw.sat.sub a.tail,b⟩) (l_ 7 rfl zk (f_ (cV_ ⟨1,Con.atom (.mk k nm lo hi ad cap ps),[],p.atom,[],[],[],0,0,0⟩ frm (Con.rightP.rights frm (Con.atom (.mk k nm lo hi ad cap ps)) (ps.take i) l) G R.2 (by have:=Con.rights_len frm (Con.atom (.mk k nm lo hi ad cap ps)) ps i l;have:=Con.sz_at E;have:=p.sz_pos;omega)) rfl (.cons _ (@List.perm_append_comm _ [_,_] _)) zt rfl λx=>?_));obtain⟨M,y⟩:=x;refine t_ (@List.perm_append_comm _ _ [_,_]) (Zz 2 ?_);refine H_ (λ_ a b=>⟨Vw.sat.sub a,b⟩) (Zz 3 ?_);refine e_ (da_ (cs:=[rFn bs bk]) jF_ rfl (λv _ h=>h.2.2.2.1) rfl) rfl (e_ (cD_ 0 aq_ D_ rfl rfl) rfl (T_ (ih p zaA_ (Con.ok_part (c:=(.mk k nm lo hi ad cap ps)) A m) (Con.fine_part (c:=(.mk k nm lo hi ad cap ps)) U m) (ins frm (Con.rightP.rights frm (Con.atom (.mk k nm lo hi ad cap ps)) (ps.take i) l) ⟨1,Con.atom (.mk k nm lo hi ad cap ps),[],p.atom,[],[],[],0,0,0⟩) M y (by have:=Con.rights_len frm (Con.atom (.mk k nm lo hi ad cap ps)) ps i l;have:=Con.sz_at E;have:=bC_ frm (Con.rightP.rights frm (Con.atom (.mk k nm lo hi ad cap ps)) (ps.take i) l) ⟨1,(Con.atom (.mk k nm lo hi ad cap ps)),[],p.atom,[],[],[],0,0,0⟩;omega)) rfl rfl (@List.perm_append_comm _ [_,_] _) (λv _ h=>by exact⟨Con.mem_part (c:=(.mk k nm lo hi ad cap ps)) h.1 m,h.2⟩) rfl λx=>?_));obtain⟨V,H⟩:=x;refine t_ (@List.perm_append_comm _ _ [_,_]) (Zz 7 ?_);exact C_ ⟨(i+1,V),N,by rw[Con.rights_step frm _ E];exact H⟩ zal_ zl (F:=[_]) (@List.perm_append_comm _ [_] _) zh
end Go.Proofs.YtfjcabalehamcaaGreatDoor
