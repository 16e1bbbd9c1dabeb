/-
  Lemmas for the law CanonTells (no condition).
-/
import Derived.Test.YtbffkokbdeppaaaGreatDoorQCanonTells3
import Derived.Test.YtbffkokbdeppaaaGreatDoorProg
set_option linter.unusedVariables false
set_option linter.unusedSimpArgs false
set_option linter.unusedSectionVars false
set_option maxHeartbeats 1000000
namespace Go.Proofs.YtbffkokbdeppaaaGreatDoor
open Go Go.Sx Go.Proofs Tryz
attribute [local irreducible] Code.wp wpList wpAnyH
open Go.Vs
theorem Al_ {σ τ:Type} {l:Nat} {H:σ->Hp} {N:τ->Hp} {stp:Con->σ->σ ⊕ τ} {E:List Fct} {good:Con->Prop} (C:∀ c p,good c->p∈c.parts->good p)
    (S:∀ s x,x.ok->good x->jJ_ prog l x.val (H s) (x.memF::E) (λ_:Unit=>.bool (stp x s).isLeft) (λ_=>oK_ H N (stp x s)) (λ_=>[])) :
    ∀ (m:Nat) (c:Con),c.sz<=m->c.ok->good c->∀ (s:σ) r,Con.fold stp c s=r->
    Tri prog 191 #[c.val,.func (.yield l) #[] #[]] (H s) (c.memF::E) (λ_:Unit=>.bool r.isLeft) (λ_=>oK_ H N r) (λ_=>[]):=by
  intro m
  induction m with
  | zero=>intro c h;have:=c.sz_pos;omega
  | succ m ih =>
    intro c hm e O s r Q;obtain⟨k,nm,lo,hi,ad,cap,ps⟩:=c;have J:=Con.ok_len e;simp only[Con.parts,Con.cap]at J;have M:∀ p∈ps,good p:=λp G=>C _ p O G
    refine i_ func191 rfl rfl ntmps191 rfl λU=>?_;refine Zz 2 ?_;refine P_ rfl rfl λA=>Zz 5 ?_
    rcases hfc:stp (.mk k nm lo hi ad cap ps) s with B|K
    . refine kH_ (ι:=Unit) (λ_=>[(1,.func (.yield l) #[] #[]),(2,zp_ A 0),(10,.bool false)]) (λ_=>(A,.cells (Con.mk k nm lo hi ad cap ps).cells.toArray 28 (0,0))::H B) (λ_=>[(Con.mk k nm lo hi ad cap ps).memF]++E) ?_ λ_=>?_
      . refine aK_ ?_;refine U_ cE_ (ar_ rfl) rfl rfl ?_;refine U_ cE_ (cR_ (c:=.mk k nm lo hi ad cap ps) 0 ah_ t_ rfl rfl) rfl rfl ?_;refine hH_ (S s _ e O) rfl rfl (@List.perm_append_comm _ [_] _) (λv _ h=>h) rfl λ_=>?_;rw[hfc];refine U_ cE_ (as_ rfl) rfl rfl ?_;refine br_ ?_;refine cN_ rfl ?_;exact eE_ () zl (F:=[]) zaU_ zh
      . refine Zz 14 ?_;refine bx_ [(1,.func (.yield l) #[] #[]),(12,.slice ad ps.length cap),(13,iv_ ps.length),(14,iv_ ((0:Nat):Int))] zl ?_;refine bV_ (ι:={q:Nat×σ // q.1<=ps.length/\Con.fold.folds stp (ps.take q.1) B=.inl q.2}) (λi=>[(1,.func (.yield l) #[] #[]),(12,.slice ad ps.length cap),(13,iv_ ps.length),(14,iv_ i.1.1)]) (λi=>_::H i.1.2) (λ_=>_) (λi=>ps.length - i.1.1) ⟨(0,B),by simp[Con.fold.folds]⟩ ?_;rintro ⟨⟨i,y⟩,hk⟩;refine bx_ [(1,.func (.yield l) #[] #[]),(12,.slice ad ps.length cap),(13,iv_ ps.length),(14,iv_ i)] zl ?_;refine Zj 2 (λL=>?_) λL=>?_
        . refine Zz 12 ?_;obtain rfl:r=.inl y:=by rw[<-Q,Con.fold_eq,hfc];exact Con.folds_yes (show ps.length<=i by omega) hk.2
          exact ab_ results191 () rfl (@List.perm_append_comm _ [_] _) zt
        . have I:i<ps.length:=by omega
          obtain⟨p,G⟩:∃ p,ps[i]? = some p:=⟨_,yaa_ I⟩;have d:p∈ps:=yad_ G;refine Zz 10 ?_;refine e_ (Z_ ai_ t_ rfl rfl (λv _ h=>Con.row_addr (c:=.mk k nm lo hi ad cap ps) h.1 G) zaa_ zaa_) rfl (e_ (am_ (us:=p.cells) ah_ t_ rfl (λv _ h=>((Con.mem_iff (.mk k nm lo hi ad cap ps) v).1 h.1).1) p.cells_len (Con.part_cells (c:=.mk k nm lo hi ad cap ps) (i:=i) G)) rfl (x_ aF_ rfl λT=>fk_ 0 t_ rfl rfl rfl rfl (Zz 3 ?_)));rcases hfp:Con.fold stp p y with P|R
          . refine aP_ (e_ (cR_ 0 ah_ t_ rfl rfl) rfl (Zz 1 ?_));refine f_ (ih p zbQ_ (Con.ok_part (c:=.mk k nm lo hi ad cap ps) e d) (M p d) y _ hfp) rfl (@List.perm_append_comm _ [_,_] _) (λv _ h=>⟨Con.mem_part (c:=.mk k nm lo hi ad cap ps) h.1 d,h.2⟩) rfl λ_=>?_;refine A_ (@List.perm_append_comm _ _ [_,_]) (e_ (as_ rfl) rfl (Zz 10 ?_));exact u_ ⟨(i+1,P),I,Con.folds_step G hk.2 hfp⟩ zan_ zl (F:=[_]) (@List.perm_append_comm _ [_] _) zh
          . refine aP_ (e_ (cR_ 0 ah_ t_ rfl rfl) rfl (Zz 1 ?_));refine f_ (ih p zbQ_ (Con.ok_part (c:=.mk k nm lo hi ad cap ps) e d) (M p d) y _ hfp) rfl (@List.perm_append_comm _ [_,_] _) (λv _ h=>⟨Con.mem_part (c:=.mk k nm lo hi ad cap ps) h.1 d,h.2⟩) rfl λ_=>?_;refine A_ (@List.perm_append_comm _ _ [_,_]) (e_ (as_ rfl) rfl (Zz 9 ?_));obtain rfl:r=.inr R:=by rw[<-Q,Con.fold_eq,hfc];exact Con.folds_no G hk.2 hfp
            exact ab_ results191 () rfl (@List.perm_append_comm _ [_,_] _) zt
    . refine kH_ (ι:=Unit) (λ_=>[(1,.func (.yield l) #[] #[]),(2,zp_ A 0),(10,.bool true)]) (λ_=>(A,.cells (Con.mk k nm lo hi ad cap ps).cells.toArray 28 (0,0))::N K) (λ_=>[(Con.mk k nm lo hi ad cap ps).memF]++E) ?_ λ_=>?_
      . refine aK_ ?_;refine U_ cE_ (ar_ rfl) rfl rfl ?_;refine U_ cE_ (cR_ (c:=.mk k nm lo hi ad cap ps) 0 ah_ t_ rfl rfl) rfl rfl ?_;refine hH_ (S s _ e O) rfl rfl (@List.perm_append_comm _ [_] _) (λv _ h=>h) rfl λ_=>?_;rw[hfc];refine U_ cE_ (as_ rfl) rfl rfl ?_;refine br_ ?_;refine cN_ rfl ?_;exact eE_ () zl (F:=[]) zaU_ zh
      . refine Zz 8 ?_;obtain rfl:r=.inr K:=by rw[<-Q,Con.fold_eq,hfc]
        exact ab_ results191 () rfl (@List.perm_append_comm _ [_] _) zt
theorem tI_ (c:Con) :
    Tri prog 106 #[c.val] [] [] (λb:Nat=>.func (.func 190) #[] #[zp_ b 0]) (λb=>[(b,.cells c.cells.toArray 28 (0,0))]) (λ_=>[]):=by
  refine i_ func106 rfl rfl ntmps106 rfl λe=>?_;refine Zz 2 ?_;refine P_ rfl rfl λd=>Zz 5 ?_
  refine e_ (aY_ rfl rfl) rfl (Zz 4 ?_);exact ab_ results106 d rfl (F:=[]) (.refl _) zt
theorem qC_ {σ τ:Type} {l b:Nat} {e:σ->Hp} {q:τ->Hp} {stp:Con->σ->σ ⊕ τ} {E:List Fct} {good:Con->Prop} (d:∀ c p,good c->p∈c.parts->good p)
    (A:∀ s x,x.ok->good x->jJ_ prog l x.val (e s) (x.memF::E) (λ_:Unit=>.bool (stp x s).isLeft) (λ_=>oK_ e q (stp x s)) (λ_=>[]))
    (c:Con) (m:c.ok) (y:good c) (s:σ) :
    Tri prog 190 #[.func (.yield l) #[] #[],zp_ b 0] ((b,.cells c.cells.toArray 28 (0,0))::e s) (c.memF::E) (λ_:Unit=>.tuple #[]) (λ_=>(b,.cells c.cells.toArray 28 (0,0))::oK_ e q (Con.fold stp c s)) (λ_=>[]):=by
  refine i_ func190 rfl rfl ntmps190 rfl λB=>?_;refine aP_ (e_ (cR_ (c:=c) 0 ah_ t_ rfl rfl) rfl (Zz 1 ?_));refine f_ (Al_ d A _ c (yaj_ _) m y s _ rfl) rfl (@List.perm_append_comm _ [_] _) (λv _ h=>h) rfl λ_=>Zz 2 ?_
  exact co_ results190 () rfl (F:=[]) zaU_ zt
theorem nv_ {G:Prop} (h:G:=by
 exact yq_ (G:=[_,_,_]) () (λa v y q=>by rw[<-O];exact od_ 1 results115 isAgg35 rfl rfl a v y q) (fQ_ (i:=3) rfl) ⟨_,.refl _⟩ rfl):G:=h
theorem eR_ (c:Con) (I:c.ok):Tri prog 115 #[c.val] [] [c.memF,bN_] (λ_:Unit=>iv_ c.check) (λ_=>[]) (λ_=>[]):=by
 obtain⟨k,nm,lo,hi,ad,cap,ps⟩:=c;refine fN_ func115 rfl rfl ntmps115 rfl λC=>?_;refine Zz 2 ?_;refine P_ rfl rfl λW=>x_ zeroValue35 rfl λd=>Zz 4 ?_
 refine x_ dD_ rfl λQ=>n_ 0 ag_ rfl rfl rfl rfl rfl rfl (Zz 6 ?_)
 refine oq_ 0 (fits_c _ (.mk k nm lo hi ad cap ps) (yaj_ _) I 0 0 Q zaa_ zaa_ _ rfl) rfl rfl zf rfl λN R=>e_ (as_ rfl) rfl (Zz 2 ?_)
 cases N
 .refine Zz 3 ?_;refine n_ 1 sizeOf35 rfl rfl rfl rfl rfl rfl (Zz 3 ?_);exact retM () (λa v y q _=>by rw[od_ 1 results115 isAgg35 rfl rfl a v y q];simp[Con.check, *]) (.refl _) zt
 refine Zz 7 ?_;refine f_ (tI_ (.mk k nm lo hi ad cap ps)) rfl (.refl _) zt rfl λb=>Zz 3 ?_
 refine bx_ [(2,zp_ d 0),(10,.func (.func 190) #[] #[zp_ b 0])] zl ?_;refine du_ (H':=[_,_]) (F:=[_,_]) (.cons _ (.swap _ _ _)) zh ?_;let Pu:Nat×Obj:=(d,.cells #[iv_ 0] 35 (0,0));refine pI_ (α:={c:Con // c.ok}) (xv:=λx=>x.1.val) (good:=λ_=>True) (stp:=λx=>Con.chk x.1) (Γx:=λx=>[x.1.memF,bN_]) (Γi:=[Con.memF (.mk k nm lo hi ad cap ps),bN_]) (Hj:=λ_:Unit=>[Pu]) (Hx:=λt:Int=>[(d,.cells #[iv_ t] 35 (0,0))]) (Hc:=[(b,.cells (Con.mk k nm lo hi ad cap ps).cells.toArray 28 (0,0))]) (caps:=[zp_ b 0]) () (Con.fold Con.chk (.mk k nm lo hi ad cap ps) ()) rfl (.refl _) (λv _ h=>h) ?_ ?_ ?_ ?_
 .rintro l D X U K J S H B s ⟨x,P⟩ -
  refine jY_ (ι:=Nat) (Hj:=λ_:Unit=>[Pu]) (Hx:=λt:Int=>[(d,.cells #[iv_ t] 35 (0,0))]) (s:=s) (res:=Con.chk x s) (Γ:=[x.memF,bN_]) (λm=>[(2,zp_ d 0),(4,zp_ m 0)]) (λm=>[(m,.cells x.cells.toArray 28 (0,0)),Pu]) U K J S rfl ?_ ?_
  .intro n C L V
   rw[H];refine aK_ ?_;refine or_ (N_ _) aF_ rfl λm=>?_;refine sE_ (N_ _) 0 t_ rfl rfl rfl rfl ?_;refine br_ ?_;refine cN_ rfl ?_;exact eE_ m zl (F:=[]) zaN_ zh
  intro n C L V m;rw[B];refine dW_ ?_;refine cK_ ?_;refine aK_ ?_;refine U_ (N_ _) (cR_ 0 ah_ t_ rfl rfl) rfl rfl ?_;refine wC_ (ps_ x P) rfl (.refl _) zf rfl λ_=>?_;refine U_ (N_ _) (aI_ rfl) rfl rfl ?_;refine br_ ?_;refine cc_ rfl ?_;refine cK_ ?_;refine aK_ ?_;refine U_ (N_ _) (ar_ rfl) rfl rfl ?_;refine wA_ (N_ _) (cg_ rfl rfl) rfl rfl λM e=>?_;refine br_ ?_;refine cc_ rfl ?_;cases M
  .replace e:=fo_ e
   refine mF_ rfl ?_;refine lu_ ?_;refine cN_ rfl ?_;exact fg_ () (by simp[Con.chk, *]) (G:=[_]) (@List.perm_append_comm _ [_] _)
  replace e:=fm_ e;refine fy_ rfl ?_;refine cK_ ?_;refine aK_ ?_;refine U_ (N_ _) (ar_ rfl) rfl rfl ?_;refine ew_ (N_ _) 1 sizeOf35 rfl rfl rfl rfl rfl rfl ?_;refine br_ ?_;refine cc_ rfl ?_;refine kI_ ?_;exact wi_ x.fieldErr (by simp[Con.chk, *]) (G:=[_]) (@List.perm_append_comm _ [_] _)
 .intro l Z Y T
  exact qC_ (E:=[bN_]) (good:=λ_=>True) (λ_ _ _ _=>trivial) (λs x P _=>T s ⟨x,P⟩ trivial) _ I trivial ()
 .intro s A D l r
  rw[Con.fold_chk _ _ (yaj_ _)]at A;refine cc_ rfl ?_;refine cK_ ?_;refine aK_ ?_;refine ew_ cE_ 1 sizeOf35 rfl rfl rfl rfl rfl rfl ?_;refine br_ ?_;refine cc_ rfl ?_;refine kI_ ?_;have O:(0:Int)=(Con.mk k nm lo hi ad cap ps).check:=by unfold Con.check;rw[yao_ zal_];split at A;(rename_i h;exact h.symm);cases A
  exact nv_
 intro t A D l r;rw[Con.fold_chk _ _ (yaj_ _)]at A;have O:t=(Con.mk k nm lo hi ad cap ps).check:=by unfold Con.check;rw[yao_ zal_];split at A;cases A;injection A with A;exact A.symm
 exact nv_
theorem jU_ {G:Prop} (h:G:=by
 refine Zz 6 ?_;exact met ⟨rfl,rfl,rfl,(s_ rfl (jaf d)),trivial⟩):G:=h
theorem qe_ (c:Con):Fn0 prog 194 #[c.val] (.bool c.empty):=by
 obtain⟨k,nm,lo,hi,ad,cap,ps⟩:=c;refine i_ func194 rfl rfl ntmps194 rfl λG=>?_;refine Zz 2 ?_;refine P_ rfl rfl λx=>Zz 7 ?_
 refine E_ (bz_ rfl rfl) rfl λF m=>Zz 1 ?_
 refine aq_ 4 ((k==0)&&(nm==[])) (λr=>[(0,.agg (Con.cells (Con.mk k nm lo hi ad cap ps)).toArray),(1,zp_ x 0),(2,.bool false),(10,.bool r)]) ?_ λE q=>?_
 .cases F
  .have d:=m
   replace m:=znb m;exact jU_
  have d:=m;replace m:=zeb m;refine Zz 5 ?_;refine E_ (cW_ rfl rfl) rfl λA h=>Zz 3 ?_
  exact met ⟨rfl,rfl,rfl,(s_ rfl (jat d h)),trivial⟩
 refine Zz 1 ?_;refine aq_ 4 ((((k==0)&&(nm==[])))&&(lo==0)) (λr=>[(0,.agg (Con.cells (Con.mk k nm lo hi ad cap ps)).toArray),(1,zp_ x 0),(2,.bool false),(15,.bool r)]) ?_ λA h=>?_
 .cases E
  .have d:=q
   simp at q
   exact jU_
  have d:=q;simp at q
  refine Zz 5 ?_;refine E_ (bz_ rfl rfl) rfl λy e=>Zz 3 ?_
  exact met ⟨rfl,rfl,rfl,(s_ rfl (jat d e)),trivial⟩
 refine Zz 1 ?_;refine aq_ 4 ((((((k==0)&&(nm==[])))&&(lo==0)))&&(hi==0)) (λr=>[(0,.agg (Con.cells (Con.mk k nm lo hi ad cap ps)).toArray),(1,zp_ x 0),(2,.bool false),(20,.bool r)]) ?_ λy e=>?_
 .cases A
  .have d:=h
   simp at h
   exact jU_
  have d:=h;simp at h
  refine Zz 5 ?_;refine E_ (bz_ rfl rfl) rfl λC v=>Zz 3 ?_
  exact met ⟨rfl,rfl,rfl,(s_ rfl (jat d v)),trivial⟩
 refine Zz 1 ?_;refine aq_ 5 ((((((((k==0)&&(nm==[])))&&(lo==0)))&&(hi==0)))&&((ps.length:Int)==0)) (λr=>[(0,.agg (Con.cells (Con.mk k nm lo hi ad cap ps)).toArray),(2,.bool false),(26,.bool r)]) ?_ λC v=>?_
 .cases y
  .have d:=e
   simp at e
   refine Zz 7 ?_;exact met ⟨rfl,rfl,(s_ rfl (jaf d)),trivial⟩
  have d:=e;simp at e
  refine Zz 7 ?_;refine E_ (bz_ rfl rfl) rfl λH B=>Zz 3 ?_
  exact met ⟨rfl,rfl,(s_ rfl (jat d B)),trivial⟩
 refine Zz 4 ?_;exact ab_ results194 () (s_ rfl v.symm) (.refl _) zt
theorem rf_ {g:FuncId} {pred:Con->Bool} (c:Con) (A:c.ok) (F:∀ p∈c.parts,Tri prog g #[p.val] [] [p.memF] (λ_:Unit=>.bool (pred p)) (λ_=>[]) (λ_=>[])) :
    Tri prog 277 #[.slice c.ad c.parts.length c.cap,.func (.func g) #[] #[]] [] [c.memF] (λr:{r:Int // decide (0<=r)=c.parts.any pred}=>iv_ r.1) (λ_=>[]) (λ_=>[]):=by
  obtain⟨k,nm,lo,hi,ad,cap,ps⟩:=c;have x:=Con.ok_len A;simp only[Con.parts,Con.cap]at x;refine i_ func277 rfl rfl ntmps277 rfl λE=>?_;refine Zz 14 ?_;refine bx_ [(0,.slice ad ps.length cap),(1,.func (.func g) #[] #[]),(7,iv_ ps.length),(8,iv_ ((0:Nat):Int))] zl ?_;refine bV_ (ι:={q:Nat // q<=ps.length/\(ps.take q).any pred=false}) (λi=>[(0,.slice ad ps.length cap),(1,.func (.func g) #[] #[]),(7,iv_ ps.length),(8,iv_ i.1)]) (λ_=>_) (λ_=>_) (λi=>ps.length - i.1) ⟨0,by simp⟩ ?_;rintro ⟨i,hk⟩;refine bx_ [(0,.slice ad ps.length cap),(1,.func (.func g) #[] #[]),(7,iv_ ps.length),(8,iv_ i)] zl ?_;refine Zj 2 (λm=>?_) λm=>?_
  . refine Zz 12 ?_;exact ab_ results277 ⟨-1,by have:=hk.2;rw[yab_ zaa_]at this;show _=ps.any pred;rw[this];rfl⟩ rfl (.refl _) zt
  . have e:i<ps.length:=by omega
    obtain⟨p,y⟩:∃ p,ps[i]? = some p:=⟨_,yaa_ e⟩;have d:p∈ps:=yad_ y;refine Zz 19 ?_;refine e_ (Z_ ai_ t_ rfl rfl (λv _ h=>aA_ (n:=5) Con.cells_len zae_ (((Con.mem_iff (.mk k nm lo hi ad cap ps) v).1 h.1).1) y) zaa_ zah_) rfl ?_;refine e_ (am_ (ad:=ad) (us:=p.cells) ah_ t_ rfl (λv _ h=>((Con.mem_iff (.mk k nm lo hi ad cap ps) v).1 h.1).1) (Con.cells_len _) (w_ Con.cells_len y)) rfl (bh_ (F p d) rfl rfl (.refl _) (λv _ h=>by exact⟨Con.mem_part (c:=(.mk k nm lo hi ad cap ps)) h.1 d,trivial⟩) rfl λB C=>Zz 2 ?_);cases B
    . refine Zz 8 ?_;exact u_ ⟨i+1,e,by rw[Con.take_snoc y,yci_,hk.2];simp[*]⟩ zan_ zl (.refl _) zh
    . refine Zz 8 ?_;exact ab_ results277 ⟨(i:Int),by show _=ps.any pred;rw[show ps.any pred=true from ybT_.2 ⟨p,d,by assumption⟩];exact yaC_ zaa_⟩ rfl (.refl _) zt
theorem nf_ {g:FuncId} {pred:Con->Bool} (c:Con) (e:c.ok) (m:∀ p∈c.parts,Tri prog g #[p.val] [] [p.memF] (λ_:Unit=>.bool (pred p)) (λ_=>[]) (λ_=>[])) :
    Tri prog 198 #[.slice c.ad c.parts.length c.cap,.func (.func g) #[] #[]] [] [c.memF] (λ_:Unit=>.bool (c.parts.any pred)) (λ_=>[]) (λ_=>[]):=by
  obtain⟨k,nm,lo,hi,ad,cap,ps⟩:=c;refine i_ func198 rfl rfl ntmps198 rfl λy=>?_;refine Zz 9 ?_;refine f_ (rf_ (.mk k nm lo hi ad cap ps) e m) rfl (.refl _) (λv _ h=>h) rfl λx=>E_ (eJ_ rfl rfl) rfl λq d=>Zz 4 ?_
  exact ab_ results198 () (s_ rfl (d.symm.trans x.2)) (.refl _) zt
theorem dJ_:∀ (m:Nat) (c:Con),c.sz<=m->c.ok->Tri prog 116 #[c.val] [] [c.memF] (λ_:Unit=>.bool c.bare) (λ_=>[]) (λ_=>[]):=by
 intro m
 induction m with
 | zero=>intro c h;have:=c.sz_pos;omega
 | succ m ih =>
   intro c hm d;obtain⟨k,nm,lo,hi,ad,cap,ps⟩:=c;refine i_ func116 rfl rfl ntmps116 rfl λA=>?_;refine Zz 2 ?_;refine P_ rfl rfl λB=>Zj 13 (λe=>?_) λe=>?_
   . refine Zj 6 (λq=>?_) λq=>?_
     . refine Zz 12 ?_;exact ab_ results116 () (s_ rfl zaT_) (.refl _) zt
     . refine Zz 8 ?_;refine S_ (nf_ (pred:=Con.bare) (.mk k nm lo hi ad cap ps) d (λp x=>ih p (by have:=Con.sz_part (c:=(.mk k nm lo hi ad cap ps)) x;omega) (Con.ok_part (c:=(.mk k nm lo hi ad cap ps)) d x))) rfl (.refl _) (λv _ h=>h) rfl λC y=>?_;refine Zz 4 ?_;exact ab_ results116 () (s_ rfl zaT_) (.refl _) zt
   . refine Zz 10 ?_;exact ab_ results116 () (s_ rfl zaT_) (.refl _) zt
theorem hr_ {G:Prop} (h:G:=by
 refine Zz 7 ?_;exact met ⟨rfl,rfl,rfl,rfl,rfl,rfl,rfl,rfl,rfl,rfl,(s_ rfl (jot rfl)),trivial⟩):G:=h
theorem eW_ {G:Prop} (h:G:=by
 exact met ⟨rfl,rfl,rfl,rfl,rfl,rfl,rfl,rfl,rfl,(s_ rfl (jaf d)),trivial⟩):G:=h
theorem up_ (x:Ax):Tri prog 113 #[x.val] [] [bN_] (λ_:Unit=>.bool x.shaped) (λ_=>[]) (λ_=>[]):=by
 obtain⟨k,W,⟨kl,L,O,hl,al,cl,pl⟩,⟨M,I,P,K,B,F,G⟩,ad,cap,rs,ro,a,b⟩:=x;refine i_ func113 rfl rfl ntmps113 rfl λv_1=>?_;refine Zz 2 ?_;refine P_ rfl rfl λe=>Zz 8 ?_
 refine E_ (dc_ rfl rfl) rfl λa7 Q=>Zz 1 ?_
 refine aq_ 4 ((decide (k<1))||(decide (9<k))) (λr=>[(0,.agg (Ax.cells (Ax.mk k W (Con.mk kl L O hl al cl pl) (Con.mk M I P K B F G) ad cap rs ro a b)).toArray),(1,zp_ e 0),(2,.bool false),(11,.bool r)]) ?_ λa6 X=>?_
 .cases a7
  .have d:=Q
   replace Q:=zdf Q;refine Zz 5 ?_;refine E_ (ds_ rfl rfl) rfl λa3 N=>Zz 3 ?_
   exact met (zm (jof d N))
  have d:=Q;replace Q:=zdt Q;refine Zz 6 ?_;exact met ⟨rfl,rfl,rfl,(s_ rfl (jot d)),trivial⟩
 refine Zz 2 ?_;cases a6
 .simp at X
  obtain⟨u,hx⟩:∃ u,rX_[k.toNat]? = some u:=⟨_,yaa_ (show k.toNat<10 by omega)⟩;have a8:us k=u:=by simp[us,hx]
  obtain⟨J,H,R,S,ub,U,V⟩:=u;refine Zz 7 ?_;refine e_ (dE_ runUnderlying91 ev_ rfl rfl zcd_ (by show k<(10:Int);omega)) rfl ?_;refine e_ (am_ (ad:=some ⟨0,0,none⟩) (us:=Use.cells ⟨J,H,R,S,ub,U,V⟩) isAgg90 ev_ rfl (λv _ h=>h.1.2.1) (Use.cells_len _) (w_ Use.cells_len hx)) rfl (x_ zeroValue90 rfl λA=>n_ 0 ev_ rfl rfl rfl rfl rfl rfl (Zz 7 ?_));let Pu:Array Value:=#[.bool J,.bool H,.bool R,.bool S,.bool ub,iv_ U,iv_ V];refine aq_ 4 ((J)||(Con.empty (.mk kl L O hl al cl pl))) (λr=>[(0,.agg (Ax.cells (Ax.mk k W (Con.mk kl L O hl al cl pl) (Con.mk M I P K B F G) ad cap rs ro a b)).toArray),(1,zp_ e 0),(2,.bool false),(11,.bool false),(12,zp_ e 0),(13,iv_ k),(14,.pointer (some (rad (some ⟨0,0,none⟩) (k.toNat*7)))),(15,.agg Pu),(3,zp_ A 0),(22,.bool r)]) ?_ λa3 N=>?_
  .cases J
   .refine Zz 5 ?_;refine S_ (qe_ (.mk kl L O hl al cl pl)) rfl (.refl _) zt rfl λa4 E=>Zz 3 ?_
    exact met (zm (jof rfl E))
   refine Zz 6 ?_;exact met ⟨rfl,rfl,rfl,rfl,rfl,rfl,rfl,rfl,rfl,(s_ rfl (jot rfl)),trivial⟩
  refine Zz 1 ?_;refine aq_ 8 ((((J)||(Con.empty (.mk kl L O hl al cl pl))))&&(((H)||(Con.empty (.mk M I P K B F G))))) (λr=>[(0,.agg (Ax.cells (Ax.mk k W (Con.mk kl L O hl al cl pl) (Con.mk M I P K B F G) ad cap rs ro a b)).toArray),(1,zp_ e 0),(2,.bool false),(11,.bool false),(12,zp_ e 0),(13,iv_ k),(14,.pointer (some (rad (some ⟨0,0,none⟩) (k.toNat*7)))),(15,.agg Pu),(3,zp_ A 0),(31,.bool r)]) ?_ λa4 E=>?_
  .cases a3
   .have d:=N
    simp at N
    refine Zz 10 ?_;exact eW_
   have d:=N;simp at N
   refine Zz 6 ?_;refine aq_ 4 ((H)||(Con.empty (.mk M I P K B F G))) (λr=>[(0,.agg (Ax.cells (Ax.mk k W (Con.mk kl L O hl al cl pl) (Con.mk M I P K B F G) ad cap rs ro a b)).toArray),(1,zp_ e 0),(2,.bool false),(11,.bool false),(12,zp_ e 0),(13,iv_ k),(14,.pointer (some (rad (some ⟨0,0,none⟩) (k.toNat*7)))),(15,.agg Pu),(3,zp_ A 0),(23,.bool true),(30,.bool r)]) ?_ λa2 C=>?_
   .cases H
    .refine Zz 5 ?_;refine S_ (qe_ (.mk M I P K B F G)) rfl (.refl _) zt rfl λY y=>Zz 4 ?_
     exact met (zm (jof rfl y))
    exact hr_
   refine Zz 3 ?_;exact met ⟨rfl,rfl,rfl,rfl,rfl,rfl,rfl,rfl,rfl,(s_ rfl (jat d C)),trivial⟩
  refine Zz 1 ?_;refine aq_ 8 ((((((J)||(Con.empty (.mk kl L O hl al cl pl))))&&(((H)||(Con.empty (.mk M I P K B F G))))))&&(((R)||(ro==[])))) (λr=>[(0,.agg (Ax.cells (Ax.mk k W (Con.mk kl L O hl al cl pl) (Con.mk M I P K B F G) ad cap rs ro a b)).toArray),(1,zp_ e 0),(2,.bool false),(11,.bool false),(12,zp_ e 0),(13,iv_ k),(14,.pointer (some (rad (some ⟨0,0,none⟩) (k.toNat*7)))),(15,.agg Pu),(3,zp_ A 0),(40,.bool r)]) ?_ λa2 C=>?_
  .cases a4
   .have d:=E
    simp at E
    refine Zz 10 ?_;exact eW_
   have d:=E;simp at E
   refine Zz 6 ?_;refine aq_ 4 ((R)||(ro==[])) (λr=>[(0,.agg (Ax.cells (Ax.mk k W (Con.mk kl L O hl al cl pl) (Con.mk M I P K B F G) ad cap rs ro a b)).toArray),(1,zp_ e 0),(2,.bool false),(11,.bool false),(12,zp_ e 0),(13,iv_ k),(14,.pointer (some (rad (some ⟨0,0,none⟩) (k.toNat*7)))),(15,.agg Pu),(3,zp_ A 0),(32,.bool true),(39,.bool r)]) ?_ λY y=>?_
   .cases R
    .refine Zz 5 ?_;refine E_ (cW_ rfl rfl) rfl λa1 q=>Zz 4 ?_
     exact met (zm (jof rfl q))
    exact hr_
   refine Zz 3 ?_;exact met ⟨rfl,rfl,rfl,rfl,rfl,rfl,rfl,rfl,rfl,(s_ rfl (jat d y)),trivial⟩
  refine Zz 1 ?_;refine aq_ 8 ((((((((J)||(Con.empty (.mk kl L O hl al cl pl))))&&(((H)||(Con.empty (.mk M I P K B F G))))))&&(((R)||(ro==[])))))&&(((S)||(a==[])))) (λr=>[(0,.agg (Ax.cells (Ax.mk k W (Con.mk kl L O hl al cl pl) (Con.mk M I P K B F G) ad cap rs ro a b)).toArray),(1,zp_ e 0),(2,.bool false),(11,.bool false),(12,zp_ e 0),(13,iv_ k),(14,.pointer (some (rad (some ⟨0,0,none⟩) (k.toNat*7)))),(15,.agg Pu),(3,zp_ A 0),(49,.bool r)]) ?_ λY y=>?_
  .cases a2
   .have d:=C
    simp at C
    refine Zz 10 ?_;exact eW_
   have d:=C;simp at C
   refine Zz 6 ?_;refine aq_ 4 ((S)||(a==[])) (λr=>[(0,.agg (Ax.cells (Ax.mk k W (Con.mk kl L O hl al cl pl) (Con.mk M I P K B F G) ad cap rs ro a b)).toArray),(1,zp_ e 0),(2,.bool false),(11,.bool false),(12,zp_ e 0),(13,iv_ k),(14,.pointer (some (rad (some ⟨0,0,none⟩) (k.toNat*7)))),(15,.agg Pu),(3,zp_ A 0),(41,.bool true),(48,.bool r)]) ?_ λa1 q=>?_
   .cases S
    .refine Zz 5 ?_;refine E_ (cW_ rfl rfl) rfl λa0 m=>Zz 4 ?_
     exact met (zm (jof rfl m))
    exact hr_
   refine Zz 3 ?_;exact met ⟨rfl,rfl,rfl,rfl,rfl,rfl,rfl,rfl,rfl,(s_ rfl (jat d q)),trivial⟩
  refine Zz 1 ?_;refine aq_ 8 ((((((((((J)||(Con.empty (.mk kl L O hl al cl pl))))&&(((H)||(Con.empty (.mk M I P K B F G))))))&&(((R)||(ro==[])))))&&(((S)||(a==[])))))&&(((ub)||(b==[])))) (λr=>[(0,.agg (Ax.cells (Ax.mk k W (Con.mk kl L O hl al cl pl) (Con.mk M I P K B F G) ad cap rs ro a b)).toArray),(1,zp_ e 0),(2,.bool false),(11,.bool false),(12,zp_ e 0),(13,iv_ k),(14,.pointer (some (rad (some ⟨0,0,none⟩) (k.toNat*7)))),(15,.agg Pu),(3,zp_ A 0),(58,.bool r)]) ?_ λa1 q=>?_
  .cases Y
   .have d:=y
    simp at y
    refine Zz 10 ?_;exact eW_
   have d:=y;simp at y
   refine Zz 6 ?_;refine aq_ 4 ((ub)||(b==[])) (λr=>[(0,.agg (Ax.cells (Ax.mk k W (Con.mk kl L O hl al cl pl) (Con.mk M I P K B F G) ad cap rs ro a b)).toArray),(1,zp_ e 0),(2,.bool false),(11,.bool false),(12,zp_ e 0),(13,iv_ k),(14,.pointer (some (rad (some ⟨0,0,none⟩) (k.toNat*7)))),(15,.agg Pu),(3,zp_ A 0),(50,.bool true),(57,.bool r)]) ?_ λa0 m=>?_
   .cases ub
    .refine Zz 5 ?_;refine E_ (cW_ rfl rfl) rfl λa5 T=>Zz 4 ?_
     exact met (zm (jof rfl T))
    exact hr_
   refine Zz 3 ?_;exact met ⟨rfl,rfl,rfl,rfl,rfl,rfl,rfl,rfl,rfl,(s_ rfl (jat d m)),trivial⟩
  refine Zz 1 ?_;refine aq_ 7 ((((((((((((J)||(Con.empty (.mk kl L O hl al cl pl))))&&(((H)||(Con.empty (.mk M I P K B F G))))))&&(((R)||(ro==[])))))&&(((S)||(a==[])))))&&(((ub)||(b==[])))))&&(decide (U<=(rs.length:Int)))) (λr=>[(0,.agg (Ax.cells (Ax.mk k W (Con.mk kl L O hl al cl pl) (Con.mk M I P K B F G) ad cap rs ro a b)).toArray),(1,zp_ e 0),(2,.bool false),(11,.bool false),(12,zp_ e 0),(13,iv_ k),(14,.pointer (some (rad (some ⟨0,0,none⟩) (k.toNat*7)))),(15,.agg Pu),(3,zp_ A 0),(66,.bool r)]) ?_ λa0 m=>?_
  .cases a1
   .have d:=q
    simp at q
    refine Zz 9 ?_;exact eW_
   have d:=q;simp at q
   refine Zz 11 ?_;refine E_ (eJ_ rfl rfl) rfl λa5 T=>Zz 3 ?_
   exact met ⟨rfl,rfl,rfl,rfl,rfl,rfl,rfl,rfl,rfl,(s_ rfl (jat d T)),trivial⟩
  refine Zz 1 ?_;refine aq_ 7 ((((((((((((((J)||(Con.empty (.mk kl L O hl al cl pl))))&&(((H)||(Con.empty (.mk M I P K B F G))))))&&(((R)||(ro==[])))))&&(((S)||(a==[])))))&&(((ub)||(b==[])))))&&(decide (U<=(rs.length:Int)))))&&(decide ((rs.length:Int)<=V))) (λr=>[(0,.agg (Ax.cells (Ax.mk k W (Con.mk kl L O hl al cl pl) (Con.mk M I P K B F G) ad cap rs ro a b)).toArray),(1,zp_ e 0),(2,.bool false),(11,.bool false),(12,zp_ e 0),(13,iv_ k),(14,.pointer (some (rad (some ⟨0,0,none⟩) (k.toNat*7)))),(15,.agg Pu),(3,zp_ A 0),(74,.bool r)]) ?_ λa5 T=>?_
  .cases a0
   .have d:=m
    simp at m
    refine Zz 9 ?_;exact eW_
   have d:=m;simp at m
   refine Zz 11 ?_;refine E_ (dg_ rfl rfl) rfl λr_10 Z=>Zz 3 ?_
   exact met ⟨rfl,rfl,rfl,rfl,rfl,rfl,rfl,rfl,rfl,(s_ rfl (jat d Z)),trivial⟩
  refine Zz 4 ?_;exact ab_ results113 () (s_ rfl (by unfold Ax.shaped;rw[yag_ (by simp only[ydH_];omega)];simp only[a8];exact T.symm)) (.refl _) zt
 simp at X
 refine Zz 7 ?_;exact ab_ results113 () (s_ rfl (by unfold Ax.shaped;rw[yao_ (by simpa using X)])) (.refl _) zt
theorem pn (s:Str):(((if aV_ s then 0 else 20):Int) != 0)=!aV_ s:=by cases aV_ s<;>rfl
theorem wR_ (x:Ax) (E:x.ok) (u:Use):Tri prog 114 #[x.val,.agg u.cells.toArray] [] [x.memF] (λ_:Unit=>.bool (x.namedU u)) (λ_=>[]) (λ_=>[]):=by
 obtain⟨k,X,⟨kl,W,ll,hl,al,cl,pl⟩,⟨Y,S,lr,V,K,O,Q⟩,ad,cap,rs,ro,a,b⟩:=x;obtain⟨T,R,C,B,ub,Z,U⟩:=u;have P:=E.len;have N:=E.cap;dsimp only at P N;refine i_ func114 rfl rfl ntmps114 rfl λv_1=>?_;refine Zz 2 ?_;refine P_ rfl rfl λA=>P_ rfl rfl λH=>Zz 9 ?_
 let Pu:Array Value:=#[.bool T,.bool R,.bool C,.bool B,.bool ub,iv_ Z,iv_ U];refine aq_ 5 ((C)&&(!(bj_ ro))) (λr=>[(0,.agg (Ax.cells (Ax.mk k X (Con.mk kl W ll hl al cl pl) (Con.mk Y S lr V K O Q) ad cap rs ro a b)).toArray),(1,.agg Pu),(2,zp_ A 0),(3,zp_ H 0),(4,.bool false),(14,.bool r)]) ?_ λr_1 G=>?_
 .cases C
  .refine Zz 7 ?_;exact met ⟨rfl,rfl,rfl,rfl,rfl,(s_ rfl (jaf rfl)),trivial⟩
  refine Zz 5 ?_;refine S_ (he_ _) rfl (.refl _) zt rfl λL y=>ay_ rfl rfl (e_ (as_ rfl) rfl (Zz 3 ?_))
  exact met ⟨rfl,rfl,rfl,rfl,rfl,(s_ rfl (jat rfl (jn y))),trivial⟩
 refine Zz 1 ?_;refine aq_ 9 ((((C)&&(!(bj_ ro))))||(((B)&&(((if aV_ a then 0 else 20):Int) != 0)))) (λr=>[(0,.agg (Ax.cells (Ax.mk k X (Con.mk kl W ll hl al cl pl) (Con.mk Y S lr V K O Q) ad cap rs ro a b)).toArray),(1,.agg Pu),(2,zp_ A 0),(3,zp_ H 0),(4,.bool false),(24,.bool r)]) ?_ λL y=>?_
 .cases r_1
  .have d:=G
   refine Zz 6 ?_;refine aq_ 5 ((B)&&(((if aV_ a then 0 else 20):Int) != 0)) (λr=>[(0,.agg (Ax.cells (Ax.mk k X (Con.mk kl W ll hl al cl pl) (Con.mk Y S lr V K O Q) ad cap rs ro a b)).toArray),(1,.agg Pu),(2,zp_ A 0),(3,zp_ H 0),(4,.bool false),(15,.bool false),(23,.bool r)]) ?_ λM e=>?_
   .cases B
    .refine Zz 8 ?_;exact met ⟨rfl,rfl,rfl,rfl,rfl,rfl,(s_ rfl (jaf rfl)),trivial⟩
    refine Zz 5 ?_;refine f_ (gJ_ _ E.a) rfl (.refl _) zt rfl λ_=>ay_ rfl rfl (E_ (cg_ rfl rfl) rfl λI m=>Zz 4 ?_)
    exact met ⟨rfl,rfl,rfl,rfl,rfl,rfl,(s_ rfl (jat rfl m)),trivial⟩
   refine Zz 3 ?_;exact met (zm (jof d e))
  have d:=G;refine Zz 11 ?_;exact met ⟨rfl,rfl,rfl,rfl,rfl,(s_ rfl (jot d)),trivial⟩
 refine Zz 1 ?_;refine aq_ 9 ((((((C)&&(!(bj_ ro))))||(((B)&&(((if aV_ a then 0 else 20):Int) != 0)))))||(((ub)&&(((if aV_ b then 0 else 20):Int) != 0)))) (λr=>[(0,.agg (Ax.cells (Ax.mk k X (Con.mk kl W ll hl al cl pl) (Con.mk Y S lr V K O Q) ad cap rs ro a b)).toArray),(1,.agg Pu),(2,zp_ A 0),(4,.bool false),(34,.bool r)]) ?_ λM e=>?_
 .cases L
  .have d:=y
   refine Zz 6 ?_;refine aq_ 5 ((ub)&&(((if aV_ b then 0 else 20):Int) != 0)) (λr=>[(0,.agg (Ax.cells (Ax.mk k X (Con.mk kl W ll hl al cl pl) (Con.mk Y S lr V K O Q) ad cap rs ro a b)).toArray),(1,.agg Pu),(2,zp_ A 0),(4,.bool false),(25,.bool false),(33,.bool r)]) ?_ λI m=>?_
   .cases ub
    .refine Zz 8 ?_;exact met ⟨rfl,rfl,rfl,rfl,rfl,(s_ rfl (jaf rfl)),trivial⟩
    refine Zz 5 ?_;refine f_ (gJ_ _ E.b) rfl (.refl _) zt rfl λ_=>ay_ rfl rfl (E_ (cg_ rfl rfl) rfl λr_5 F=>Zz 4 ?_)
    exact met ⟨rfl,rfl,rfl,rfl,rfl,(s_ rfl (jat rfl F)),trivial⟩
   refine Zz 3 ?_;exact met (zm (jof d m))
  have d:=y;refine Zz 11 ?_;exact met ⟨rfl,rfl,rfl,rfl,(s_ rfl (jot d)),trivial⟩
 refine Zz 2 ?_;cases M
 .refine Zz 13 ?_;refine bx_ [(36,.slice ad rs.length cap),(37,iv_ rs.length),(38,iv_ ((0:Nat):Int))] zl ?_;refine bV_ (ι:={q:Nat // q<=rs.length/\(rs.take q).all bj_=true}) (λi=>[(36,.slice ad rs.length cap),(37,iv_ rs.length),(38,iv_ i.1)]) (λ_=>_) (λ_=>_) (λi=>rs.length - i.1) ⟨0,by simp⟩ ?_;rintro ⟨i,hk⟩;refine bx_ [(36,.slice ad rs.length cap),(37,iv_ rs.length),(38,iv_ i)] zl ?_;refine Zj 2 (λm=>?_) λm=>?_
  .refine Zz 12 ?_
   exact ab_ results114 () (s_ rfl (by have hf:rs.all bj_=true:=(by have:=hk.2;rwa [yab_ zaa_]at this);unfold Ax.namedU;simp only[pn]at e;simp only[hf,e];rfl)) (.refl _) zt
  have J:i<rs.length:=by omega
  obtain⟨q,hp⟩:∃ q,rs[i]? = some q:=⟨_,yaa_ J⟩;refine Zz 10 ?_;refine e_ (Z_ o_ G_ rfl rfl (λv _ h=>aA_ (n:=1) au_ zae_ (h.1.2.2) hp) zaa_ zah_) rfl ?_;refine Zz 7 ?_;refine S_ (he_ _) rfl (.refl _) zt rfl λI F=>e_ (as_ rfl) rfl (Zz 2 ?_)
  cases I
  .refine Zz 7 ?_;exact ab_ results114 () (s_ rfl (by have hf:rs.all bj_=false:=ydd_.2 ⟨q,yad_ hp,by simp[*]⟩;unfold Ax.namedU;simp only[hf,Bool.and_false])) (.refl _) zt
  refine Zz 8 ?_;exact u_ ⟨i+1,J,by rw[yaz_,hp];simp only[ybd_,ycV_,hk.2];simp[*]⟩ zan_ zl (.refl _) zh
 refine Zz 7 ?_;exact ab_ results114 () (s_ rfl (by unfold Ax.namedU;simp only[pn]at e;simp only[e];rfl)) (.refl _) zt
theorem Ax.shaped_kind {x:Ax} (h:x.shaped=true):1<=x.kind/\x.kind<=9:=by
 unfold Ax.shaped at h
 split at h
 .cases h
 rename_i d;simp only[ydH_]at d;omega
theorem ga_ {G:Prop} (h:G:=by
 refine Zz 9 ?_;exact dT_):G:=h
theorem eV_ {G:Prop} (h:G:=by
 refine Zz 7 ?_;exact dT_):G:=h
theorem nr_ {G:Prop} (h:G:=by
 refine S_ (dJ_ _ (.mk I G J H C E F) (yaj_ _) A.right) rfl (.refl _) (λv _ h=>⟨h.1.2.1,trivial⟩) rfl λm P=>Zz 2 ?_
 exact gb_):G:=h
theorem ns_ {G:Prop} (h:G:=by
 refine Zz 11 ?_;refine S_ (dJ_ _ (.mk I G J H C E F) (yaj_ _) A.right) rfl (.refl _) (λv _ h=>⟨h.1.2.1,trivial⟩) rfl λm e=>Zz 2 ?_
 exact gb_):G:=h
theorem jT_ {G:Prop} (h:G:=by
 refine S_ (dJ_ _ (.mk I G J H C E F) (yaj_ _) A.right) rfl (.refl _) (λv _ h=>⟨h.1.2.1,trivial⟩) rfl λm y=>Zz 2 ?_
 exact gb_):G:=h
theorem nt_ {G:Prop} (h:G:=by
 cases m
 .have B:=q
  refine Zz 5 ?_;refine S_ (dJ_ _ (.mk I G J H C E F) (yaj_ _) A.right) rfl (.refl _) (λv _ h=>⟨h.1.2.1,trivial⟩) rfl λX y=>Zz 3 ?_
  exact met (zm (jof B y))
 have B:=q;refine Zz 6 ?_;exact met ⟨rfl,rfl,rfl,rfl,rfl,rfl,rfl,rfl,rfl,rfl,rfl,rfl,rfl,rfl,rfl,rfl,rfl,rfl,rfl,rfl,rfl,rfl,rfl,rfl,rfl,rfl,rfl,rfl,rfl,(s_ rfl (jot B)),trivial⟩):G:=h
theorem gb_ {G:Prop} (h:G:=by
 cases m
 .exact ga_
 exact eV_):G:=h
theorem nu_ {G:Prop} (h:G:=by
 refine Zj 7 (λq=>?_) λq=>?_
 .refine Zj 6 (λe=>?_) λe=>?_
  .refine Zj 5 (λy=>?_) λy=>?_
   .refine Zz 12 ?_
    exact dT_
   refine Zz 8 ?_;exact nr_
  refine Zz 11 ?_;exact jT_
 exact ns_):G:=h
theorem dT_ {G:Prop} (h:G:=by
 exact ab_ results53 () (bl_ rfl (by unfold Ax.check;simp only[d];simp_all)) (.refl _) zt):G:=h
theorem eS_ (x:Ax) (A:x.ok):Tri prog 53 #[x.val] [] [x.memF,bN_] (λ_:Unit=>iv_ x.check) (λ_=>[]) (λ_=>[]):=by
 obtain⟨k,S,⟨kl,M,N,hl,al,cl,pl⟩,⟨I,G,J,H,C,E,F⟩,ad,cap,rs,ro,a,b⟩:=x;refine i_ func53 rfl rfl ntmps53 rfl λv_1=>?_;refine Zz 2 ?_;refine P_ rfl rfl λK=>Zz 7 ?_
 refine S_ (up_ ⟨k,S,(.mk kl M N hl al cl pl),(.mk I G J H C E F),ad,cap,rs,ro,a,b⟩) rfl (.refl _) zf rfl λa1 Y=>e_ (as_ rfl) rfl (Zz 2 ?_)
 cases a1
 .refine Zz 7 ?_;exact ab_ results53 () (bl_ rfl (by unfold Ax.check;simp_all)) (.refl _) zt
 have hk_1:1<=k/\k<=9:=Ax.shaped_kind Y;obtain⟨u,hx⟩:∃ u,rX_[k.toNat]? = some u:=⟨_,yaa_ (show k.toNat<10 by omega)⟩;have d:us k=u:=by simp[us,hx]
 obtain⟨ul,Z,V,T,ub,W,U⟩:=u;refine Zz 7 ?_;refine e_ (dE_ runUnderlying91 ev_ rfl rfl zcd_ (by show k<(10:Int);omega)) rfl ?_;refine e_ (am_ (ad:=some ⟨0,0,none⟩) (us:=Use.cells ⟨ul,Z,V,T,ub,W,U⟩) isAgg90 ev_ rfl (λv _ h=>h.2.1.2.1) (Use.cells_len _) (w_ Use.cells_len hx)) rfl (x_ zeroValue90 rfl λO=>n_ 0 ev_ rfl rfl rfl rfl rfl rfl (Zz 7 ?_));refine S_ (wR_ ⟨k,S,(.mk kl M N hl al cl pl),(.mk I G J H C E F),ad,cap,rs,ro,a,b⟩ A ⟨ul,Z,V,T,ub,W,U⟩) rfl (.refl _) zf rfl λa0 hr_2=>e_ (as_ rfl) rfl (Zz 2 ?_)
 cases a0
 .exact eV_
 refine Zz 10 ?_;cases ul
 .refine Zz 10 ?_;cases Z
  .refine Zj 13 (λQ=>?_) λQ=>?_
   .refine Zj 7 (λL=>?_) λL=>?_
    .refine Zj 6 (λq=>?_) λq=>?_
     .refine Zj 5 (λe=>?_) λe=>?_
      .refine Zz 12 ?_
       exact dT_
      refine Zz 8 ?_;exact jT_
     exact ns_
    refine Zz 11 ?_;refine S_ (dJ_ _ (.mk I G J H C E F) (yaj_ _) A.right) rfl (.refl _) (λv _ h=>⟨h.1.2.1,trivial⟩) rfl λm q=>Zz 2 ?_
    exact gb_
   refine Zz 8 ?_;refine S_ (dJ_ _ (.mk kl M N hl al cl pl) (yaj_ _) A.left) rfl (.refl _) (λv _ h=>⟨h.1.1,trivial⟩) rfl λm L=>Zz 1 ?_
   let Pu:Array Value:=#[.bool false,.bool false,.bool V,.bool T,.bool ub,iv_ W,iv_ U];refine aq_ 4 ((Con.bare (.mk kl M N hl al cl pl))||(Con.bare (.mk I G J H C E F))) (λr=>[(0,.agg (Ax.cells (Ax.mk k S (Con.mk kl M N hl al cl pl) (Con.mk I G J H C E F) ad cap rs ro a b)).toArray),(1,zp_ K 0),(2,iv_ 0),(6,.agg (Ax.cells (Ax.mk k S (Con.mk kl M N hl al cl pl) (Con.mk I G J H C E F) ad cap rs ro a b)).toArray),(7,.bool true),(8,.bool false),(9,zp_ K 0),(10,iv_ k),(11,.pointer (some (rad (some ⟨0,0,none⟩) (k.toNat*7)))),(12,.agg Pu),(3,zp_ O 0),(13,.agg (Ax.cells (Ax.mk k S (Con.mk kl M N hl al cl pl) (Con.mk I G J H C E F) ad cap rs ro a b)).toArray),(14,.agg Pu),(15,.bool true),(16,.bool false),(17,zp_ O 0),(18,.bool false),(25,zp_ O 1),(26,.bool false),(33,zp_ K 0),(34,iv_ k),(36,.bool true),(35,.bool true),(44,.bool r)]) ?_ λR q=>?_
   .cases m
    .have B:=L
     refine Zz 5 ?_;refine S_ (dJ_ _ (.mk I G J H C E F) (yaj_ _) A.right) rfl (.refl _) (λv _ h=>⟨h.1.2.1,trivial⟩) rfl λX e=>Zz 3 ?_
     exact met (zm (jof B e))
    have B:=L;refine Zz 6 ?_;exact met ⟨rfl,rfl,rfl,rfl,rfl,rfl,rfl,rfl,rfl,rfl,rfl,rfl,rfl,rfl,rfl,rfl,rfl,rfl,rfl,rfl,rfl,rfl,rfl,(s_ rfl (jot B)),trivial⟩
   refine Zz 2 ?_;cases R
   .simp at q
    exact ga_
   simp at q
   exact eV_
  refine Zz 5 ?_;refine f_ (eR_ (.mk I G J H C E F) A.right) rfl (.refl _) (λv _ h=>⟨h.1.2.1,h.2.1,trivial⟩) rfl λ_=>Zj 6 (λQ=>?_) λQ=>?_
  .refine Zj 15 (λL=>?_) λL=>?_
   .exact nu_
   refine Zz 8 ?_;refine S_ (dJ_ _ (.mk kl M N hl al cl pl) (yaj_ _) A.left) rfl (.refl _) (λv _ h=>⟨h.1.1,trivial⟩) rfl λm q=>Zz 1 ?_
   let Qu:Array Value:=#[.bool false,.bool true,.bool V,.bool T,.bool ub,iv_ W,iv_ U];refine aq_ 4 ((Con.bare (.mk kl M N hl al cl pl))||(Con.bare (.mk I G J H C E F))) (λr=>[(0,.agg (Ax.cells (Ax.mk k S (Con.mk kl M N hl al cl pl) (Con.mk I G J H C E F) ad cap rs ro a b)).toArray),(1,zp_ K 0),(2,iv_ 0),(6,.agg (Ax.cells (Ax.mk k S (Con.mk kl M N hl al cl pl) (Con.mk I G J H C E F) ad cap rs ro a b)).toArray),(7,.bool true),(8,.bool false),(9,zp_ K 0),(10,iv_ k),(11,.pointer (some (rad (some ⟨0,0,none⟩) (k.toNat*7)))),(12,.agg Qu),(3,zp_ O 0),(13,.agg (Ax.cells (Ax.mk k S (Con.mk kl M N hl al cl pl) (Con.mk I G J H C E F) ad cap rs ro a b)).toArray),(14,.agg Qu),(15,.bool true),(16,.bool false),(17,zp_ O 0),(18,.bool false),(25,zp_ O 1),(26,.bool true),(27,zp_ K 7),(28,.agg (Con.cells (Con.mk I G J H C E F)).toArray),(29,iv_ (Con.check (.mk I G J H C E F))),(5,iv_ (Con.check (.mk I G J H C E F))),(30,iv_ (Con.check (.mk I G J H C E F))),(31,.bool false),(33,zp_ K 0),(34,iv_ k),(36,.bool true),(35,.bool true),(44,.bool r)]) ?_ λR e=>?_
   .exact nt_
   refine Zz 2 ?_;cases R
   .simp at e
    exact ga_
   simp at e
   exact eV_
  refine Zz 10 ?_;exact dT_
 refine Zz 5 ?_;refine f_ (eR_ (.mk kl M N hl al cl pl) A.left) rfl (.refl _) (λv _ h=>⟨h.1.1,h.2.1,trivial⟩) rfl λ_=>Zj 6 (λQ=>?_) λQ=>?_
 .refine Zz 12 ?_
  cases Z
  .refine Zj 13 (λL=>?_) λL=>?_
   .exact nu_
   refine Zz 8 ?_;refine S_ (dJ_ _ (.mk kl M N hl al cl pl) (yaj_ _) A.left) rfl (.refl _) (λv _ h=>⟨h.1.1,trivial⟩) rfl λm q=>Zz 1 ?_
   let Ru:Array Value:=#[.bool true,.bool false,.bool V,.bool T,.bool ub,iv_ W,iv_ U];refine aq_ 4 ((Con.bare (.mk kl M N hl al cl pl))||(Con.bare (.mk I G J H C E F))) (λr=>[(0,.agg (Ax.cells (Ax.mk k S (Con.mk kl M N hl al cl pl) (Con.mk I G J H C E F) ad cap rs ro a b)).toArray),(1,zp_ K 0),(2,iv_ 0),(6,.agg (Ax.cells (Ax.mk k S (Con.mk kl M N hl al cl pl) (Con.mk I G J H C E F) ad cap rs ro a b)).toArray),(7,.bool true),(8,.bool false),(9,zp_ K 0),(10,iv_ k),(11,.pointer (some (rad (some ⟨0,0,none⟩) (k.toNat*7)))),(12,.agg Ru),(3,zp_ O 0),(13,.agg (Ax.cells (Ax.mk k S (Con.mk kl M N hl al cl pl) (Con.mk I G J H C E F) ad cap rs ro a b)).toArray),(14,.agg Ru),(15,.bool true),(16,.bool false),(17,zp_ O 0),(18,.bool true),(19,zp_ K 2),(20,.agg (Con.cells (Con.mk kl M N hl al cl pl)).toArray),(21,iv_ (Con.check (.mk kl M N hl al cl pl))),(4,iv_ (Con.check (.mk kl M N hl al cl pl))),(22,iv_ (Con.check (.mk kl M N hl al cl pl))),(23,.bool false),(25,zp_ O 1),(26,.bool false),(33,zp_ K 0),(34,iv_ k),(36,.bool true),(35,.bool true),(44,.bool r)]) ?_ λR e=>?_
   .exact nt_
   refine Zz 2 ?_;cases R
   .simp at e
    exact ga_
   simp at e
   exact eV_
  refine Zz 5 ?_;refine f_ (eR_ (.mk I G J H C E F) A.right) rfl (.refl _) (λv _ h=>⟨h.1.2.1,h.2.1,trivial⟩) rfl λ_=>Zj 6 (λL=>?_) λL=>?_
  .refine Zj 15 (λq=>?_) λq=>?_
   .refine Zj 7 (λe=>?_) λe=>?_
    .refine Zj 6 (λy=>?_) λy=>?_
     .refine Zj 5 (λP=>?_) λP=>?_
      .refine Zz 12 ?_
       exact dT_
      refine Zz 8 ?_;refine S_ (dJ_ _ (.mk I G J H C E F) (yaj_ _) A.right) rfl (.refl _) (λv _ h=>⟨h.1.2.1,trivial⟩) rfl λm hr_9=>Zz 2 ?_
      exact gb_
     refine Zz 11 ?_;exact nr_
    refine Zz 11 ?_;exact jT_
   refine Zz 8 ?_;refine S_ (dJ_ _ (.mk kl M N hl al cl pl) (yaj_ _) A.left) rfl (.refl _) (λv _ h=>⟨h.1.1,trivial⟩) rfl λm e=>Zz 1 ?_
   let Su:Array Value:=#[.bool true,.bool true,.bool V,.bool T,.bool ub,iv_ W,iv_ U];refine aq_ 4 ((Con.bare (.mk kl M N hl al cl pl))||(Con.bare (.mk I G J H C E F))) (λr=>[(0,.agg (Ax.cells (Ax.mk k S (Con.mk kl M N hl al cl pl) (Con.mk I G J H C E F) ad cap rs ro a b)).toArray),(1,zp_ K 0),(2,iv_ 0),(6,.agg (Ax.cells (Ax.mk k S (Con.mk kl M N hl al cl pl) (Con.mk I G J H C E F) ad cap rs ro a b)).toArray),(7,.bool true),(8,.bool false),(9,zp_ K 0),(10,iv_ k),(11,.pointer (some (rad (some ⟨0,0,none⟩) (k.toNat*7)))),(12,.agg Su),(3,zp_ O 0),(13,.agg (Ax.cells (Ax.mk k S (Con.mk kl M N hl al cl pl) (Con.mk I G J H C E F) ad cap rs ro a b)).toArray),(14,.agg Su),(15,.bool true),(16,.bool false),(17,zp_ O 0),(18,.bool true),(19,zp_ K 2),(20,.agg (Con.cells (Con.mk kl M N hl al cl pl)).toArray),(21,iv_ (Con.check (.mk kl M N hl al cl pl))),(4,iv_ (Con.check (.mk kl M N hl al cl pl))),(22,iv_ (Con.check (.mk kl M N hl al cl pl))),(23,.bool false),(25,zp_ O 1),(26,.bool true),(27,zp_ K 7),(28,.agg (Con.cells (Con.mk I G J H C E F)).toArray),(29,iv_ (Con.check (.mk I G J H C E F))),(5,iv_ (Con.check (.mk I G J H C E F))),(30,iv_ (Con.check (.mk I G J H C E F))),(31,.bool false),(33,zp_ K 0),(34,iv_ k),(36,.bool true),(35,.bool true),(44,.bool r)]) ?_ λR y=>?_
   .cases m
    .have B:=e
     refine Zz 5 ?_;refine S_ (dJ_ _ (.mk I G J H C E F) (yaj_ _) A.right) rfl (.refl _) (λv _ h=>⟨h.1.2.1,trivial⟩) rfl λX P=>Zz 3 ?_
     exact met (zm (jof B P))
    have B:=e;refine Zz 6 ?_;exact met ⟨rfl,rfl,rfl,rfl,rfl,rfl,rfl,rfl,rfl,rfl,rfl,rfl,rfl,rfl,rfl,rfl,rfl,rfl,rfl,rfl,rfl,rfl,rfl,rfl,rfl,rfl,rfl,rfl,rfl,rfl,rfl,rfl,rfl,rfl,rfl,(s_ rfl (jot B)),trivial⟩
   refine Zz 2 ?_;cases R
   .simp at y
    exact ga_
   simp at y
   exact eV_
  refine Zz 10 ?_;exact dT_
 refine Zz 10 ?_;exact dT_
def prE:Array MapEntry:=#[⟨.int .i64 1,.func (.func 348) #[] #[],0⟩,⟨.int .i64 2,.func (.func 349) #[] #[],1⟩,⟨.int .i64 3,.func (.func 350) #[] #[],2⟩,⟨.int .i64 4,.func (.func 351) #[] #[],3⟩,⟨.int .i64 5,.func (.func 352) #[] #[],4⟩,⟨.int .i64 6,.func (.func 353) #[] #[],5⟩,⟨.int .i64 7,.func (.func 354) #[] #[],6⟩]
def prF (m:Nat):Fct:=ch_ m (.map prE 7)
def prV (m n:Nat):Value:=.agg #[.map (some m),.map (some n)]
theorem elt39:Elt prog 25 9 1 16:=hj_ iA_ (z:=.string ⟨#[]⟩) zac_ rfl zae_
theorem yW_ {b n cap:Nat} (xs:List Str) (d:Str) (H:xs.length=n) {h:Array Value} {T:TypeId} {fz:Nat×Nat} (I:∀ (j:Nat) (x:Str),xs[j]? = some x->h[j]? = some (str x)) (A:xs.length<=cap) (J:xs.length<=1000000) (m:(Lib.join xs d).length<=140737488355328) :
    Tri prog 369 #[.slice (some ⟨b,0,none⟩) n cap,str d] [(b,.cells h T fz)] [bN_] (λ_:Unit=>str (Lib.join xs d)) (λ_=>[(b,.cells h T fz)]) (λ_=>[]):=by
  subst H;refine bZ_ (callable func369 rfl rfl) λv B G=>?_;have C:=(B.own _ yav_).1;have e:(xs.map λx=>(⟨x.toArray⟩:ByteArray)).map (·.data.toList)=xs:=by simp[ycJ_,Function.comp_def]
  have:=Tryz.strings_Join b 0 cap (xs.map λx=>⟨x.toArray⟩) ⟨d.toArray⟩ v.w (λj x E=>by
    simp only[yaH_,ycv_]at E;obtain⟨y,F,rfl⟩:=E;simp only[World.cell?,C,ybw_];exact I j y F) (yax_.1 C).1 zan_ zbd_ (by rw[e];exact m)
  rw[e,yaF_]at this;exact this.mono λ_ _ q=>⟨q.1,q.2,.inl G.1.2.2.2.1⟩
theorem yZ_ (n:Int) (m:-9223372036854775808<=n) (d:n<=9223372036854775807):Tri prog 381 #[iv_ n] [] [bN_] (λ_:Unit=>str (Lib.itoa n)) (λ_=>[]) (λ_=>[]) :=
  bZ_ (callable func381 rfl rfl) λv _ h=>(Tryz.strconv_Itoa n m d v.w (wp_ h.1.2.2.2)).mono (by
    rintro e w' ⟨rfl,k,os,rfl⟩;exact⟨rfl,uK_ _ _ _,.inr (Nat.le_add_right _ _)⟩)
theorem uX_ {b n:Nat} (xs:List Str) (m:xs.length=n) {d:Array Value} {T:TypeId} {fz:Nat×Nat} (q:∀ (j:Nat) (x:Str),xs[j]? = some x->d[j]? = some (str x)) (y:xs.length<=1000000) (e:(Lib.join xs [32]).length<=140737488355328) :
    Tri prog 380 #[.slice (some ⟨b,0,none⟩) n n] [(b,.cells d T fz)] [bN_] (λ_:Unit=>str (Lib.join xs [32])) (λ_=>[(b,.cells d T fz)]) (λ_=>[]):=by
  refine i_ func380 rfl rfl ntmps380 rfl λA=>?_;refine Zz 8 ?_;refine f_ (yW_ xs [32] m q (Nat.le_of_eq m) y e) rfl (.refl _) (λv _ h=>h) rfl λ_=>Zz 4 ?_
  exact ab_ results380 () rfl (F:=[]) (.refl _) zt
theorem pr_top (c:Con) (m n:Nat) (hk:c.kind=1):Tri prog 348 #[prV m n,c.val] [] [c.memF,prF m,bN_] (λ_:Unit=>str c.text) (λ_=>[]) (λ_=>[]):=by
  obtain⟨k,nm,lo,hi,ad,cap,ps⟩:=c;simp only[Con.kind]at hk;refine i_ func348 rfl rfl ntmps348 rfl λd=>?_;refine Zz 2 ?_;refine P_ rfl rfl λe=>P_ rfl rfl λh=>Zz 9 ?_
  exact ab_ results348 () (fR_ rfl zaR_) (.refl _) zt
theorem wo_ (c:Con) (m n:Nat) (hk:c.kind=2):Tri prog 349 #[prV m n,c.val] [] [c.memF,prF m,bN_] (λ_:Unit=>str c.text) (λ_=>[]) (λ_=>[]):=by
  obtain⟨k,nm,lo,hi,ad,cap,ps⟩:=c;simp only[Con.kind]at hk;refine i_ func349 rfl rfl ntmps349 rfl λd=>?_;refine Zz 2 ?_;refine P_ rfl rfl λe=>P_ rfl rfl λh=>Zz 9 ?_
  exact ab_ results349 () (fR_ rfl zaR_) (.refl _) zt
theorem yv_ (c:Con) (m n:Nat) (hk:c.kind=3):Tri prog 350 #[prV m n,c.val] [] [c.memF,prF m,bN_] (λ_:Unit=>str c.text) (λ_=>[]) (λ_=>[]):=by
  obtain⟨k,nm,lo,hi,ad,cap,ps⟩:=c;simp only[Con.kind]at hk;refine i_ func350 rfl rfl ntmps350 rfl λd=>?_;refine Zz 2 ?_;refine P_ rfl rfl λe=>P_ rfl rfl λh=>Zz 11 ?_
  exact ab_ results350 () (fR_ rfl zaR_) (.refl _) zt
theorem ua_ (c:Con) (m n:Nat) (hk:c.kind=4) (hl:c.name.length<=24):Tri prog 351 #[prV m n,c.val] [] [c.memF,prF m,bN_] (λ_:Unit=>str c.text) (λ_=>[]) (λ_=>[]):=by
  obtain⟨k,nm,lo,hi,ad,cap,ps⟩:=c;simp only[Con.kind]at hk;refine i_ func351 rfl rfl ntmps351 rfl λd=>?_;simp only[Con.name]at hl;refine Zz 2 ?_;refine P_ rfl rfl λh=>P_ rfl rfl λe=>Zz 7 ?_
  refine e_ (bS_ rfl rfl (by simp[Con.name];omega)) rfl ?_;refine e_ (bS_ rfl rfl (by simp[Con.name];omega)) rfl ?_;refine Zz 4 ?_;exact ab_ results351 () (fR_ rfl zaR_) (.refl _) zt
theorem nq_ {G:Prop} (h:G:=by
 exact ab_ results379 () (fR_ rfl (by unfold Con.operand;first|exact (yao_ zal_).symm|exact (yag_ zal_).symm)) (.refl _) zt):G:=h
theorem tZ_ (c:Con) (m n:Nat) (hl:c.text.length<=100000) (e:Tri prog 307 #[prV m n,c.val] [] [c.memF,prF m,bN_] (λ_:Unit=>str c.text) (λ_=>[]) (λ_=>[])):Tri prog 379 #[prV m n,c.val] [] [c.memF,prF m,bN_] (λ_:Unit=>str c.operand) (λ_=>[]) (λ_=>[]):=by
 obtain⟨k,nm,lo,hi,ad,cap,ps⟩:=c;refine i_ func379 rfl rfl ntmps379 rfl λq=>?_;refine Zz 2 ?_;refine P_ rfl rfl λy=>P_ rfl rfl λx=>Zj 8 (λd=>?_) λd=>?_
 .refine Zz 9 ?_
  refine f_ (e) rfl (.refl _) (λv _ h=>h) rfl λ_=>Zz 4 ?_
  exact nq_
 refine Zz 7 ?_;refine f_ (e) rfl (.refl _) (λv _ h=>h) rfl λ_=>?_;refine e_ (bS_ rfl rfl zau_) rfl ?_;refine e_ (bS_ rfl rfl zau_) rfl ?_;refine Zz 4 ?_;exact nq_
theorem gh_ (c:Con) (m n:Nat) {g i:Nat} (e:do_ prog 3 (iv_ c.kind) prE.toList (some (i,.func (.func g) #[] #[]))) (y:Tri prog g #[prV m n,c.val] [] [c.memF,prF m,bN_] (λ_:Unit=>str c.text) (λ_=>[]) (λ_=>[])):Tri prog 307 #[prV m n,c.val] [] [c.memF,prF m,bN_] (λ_:Unit=>str c.text) (λ_=>[]) (λ_=>[]):=by
  obtain⟨k,nm,lo,hi,ad,cap,ps⟩:=c;refine i_ func307 rfl rfl ntmps307 rfl λd=>?_;refine Zz 2 ?_;refine P_ rfl rfl λx=>P_ rfl rfl λq=>Zz 9 ?_
  refine e_ (eY_ di_ rfl rfl (λv _ h=>h.2.1.2) (aH_ m_) e) rfl (Zz 2 ?_);refine ap_ (y) rfl rfl (.refl _) zf rfl λ_=>Zz 4 ?_
  exact ab_ results307 () rfl (.refl _) zt
theorem Av_:gp_ prog 347 [(0,1),(1,1)] [.map none,.map none]:=⟨_,zeroValue347,runUnderlying347,λw=>by simp[sizeOf344,sizeOf345]⟩
theorem qS_:Tri prog 306 #[] [] [] (λq:Nat×Nat=>prV q.1 q.2) (λ_=>[]) (λq=>[prF q.1]):=by
  refine i_ func306 rfl rfl ntmps306 rfl λx=>?_;refine Zz 2 ?_;refine x_ zeroValue347 rfl λy=>Zz 4 ?_
  refine bf_ rfl λh=>aE_ 0 (.inl rfl) di_ rfl rfl rfl rfl (aH_ m_) (aw_ m_ rfl) (aE_ 0 (.inl rfl) di_ rfl rfl rfl rfl (aH_ m_) (aw_ m_ rfl) (aE_ 0 (.inl rfl) di_ rfl rfl rfl rfl (aH_ m_) (aw_ m_ rfl) (aE_ 0 (.inl rfl) di_ rfl rfl rfl rfl (aH_ m_) (aw_ m_ rfl) (aE_ 0 (.inl rfl) di_ rfl rfl rfl rfl (aH_ m_) (aw_ m_ rfl) (aE_ 0 (.inl rfl) di_ rfl rfl rfl rfl (aH_ m_) (aw_ m_ rfl) (aE_ 0 (.inl rfl) di_ rfl rfl rfl rfl (aH_ m_) (aw_ m_ rfl) (Zz 1 ?_)))))))
  refine bf_ rfl λm=>aE_ 0 (.inl rfl) cB_ rfl rfl rfl rfl (aH_ m_) (aw_ m_ rfl) (aE_ 0 (.inl rfl) cB_ rfl rfl rfl rfl (aH_ m_) (aw_ m_ rfl) (aE_ 0 (.inl rfl) cB_ rfl rfl rfl rfl (aH_ m_) (aw_ m_ rfl) (aE_ 0 (.inl rfl) cB_ rfl rfl rfl rfl (aH_ m_) (aw_ m_ rfl) (aE_ 0 (.inl rfl) cB_ rfl rfl rfl rfl (aH_ m_) (aw_ m_ rfl) (aE_ 0 (.inl rfl) cB_ rfl rfl rfl rfl (aH_ m_) (aw_ m_ rfl) (aE_ 0 (.inl rfl) cB_ rfl rfl rfl rfl (aH_ m_) (aw_ m_ rfl) (aE_ 0 (.inl rfl) cB_ rfl rfl rfl rfl (aH_ m_) (aw_ m_ rfl) (aE_ 0 (.inl rfl) cB_ rfl rfl rfl rfl (aH_ m_) (aw_ m_ rfl) (Zz 1 ?_)))))))))
  refine e_ (C_ Av_ rfl rfl) rfl (n_ 2 sizeOf347 rfl rfl rfl rfl rfl rfl (Zz 3 ?_));refine iM_ 1 rfl ?_;exact de_ (h,m) (λa v d e=>dy_ (us:=[_,_]) 1 results306 isAgg347 sizeOf347 rfl rfl rfl a v d e) (.refl _) zf
theorem pr_and (c:Con) (m n:Nat) (A:c.kind=5) (J:2<=c.parts.length/\c.parts.length<=8) (hl:(Lib.join (c.parts.map Con.operand) [32,97,110,100,32]).length<=140737488355328) (x:∀ p∈c.parts,Tri prog 379 #[prV m n,p.val] [] [p.memF,prF m,bN_] (λ_:Unit=>str p.operand) (λ_=>[]) (λ_=>[])):Tri prog 352 #[prV m n,c.val] [] [c.memF,prF m,bN_] (λ_:Unit=>str c.text) (λ_=>[]) (λ_=>[]):=by
 obtain⟨k,nm,lo,hi,ad,cap,ps⟩:=c;simp only[Con.kind,Con.parts]at A J hl x;refine i_ func352 rfl rfl ntmps352 rfl λN=>?_;refine Zz 2 ?_;refine P_ rfl rfl λd=>P_ rfl rfl λL=>Zz 18 ?_
 refine bx_ [(2,zp_ d 0),(5,.slice none 0 0),(9,.slice ad ps.length cap),(10,iv_ ps.length),(11,iv_ ((0:Nat):Int))] zl ?_;refine bV_ (ι:={q:Nat×Value×Hp // q.1<=ps.length/\at_ 9 1 q.2.1 q.1 ((ps.take q.1).flatMap λp=>al_ p.operand) q.2.2}) (λq=>[(2,zp_ d 0),(5,q.1.2.1),(9,.slice ad ps.length cap),(10,iv_ ps.length),(11,iv_ q.1.1)]) (λq=>_::_::q.1.2.2) (λ_=>_) (λq=>ps.length - q.1.1) ⟨(0,.slice none 0 0,[]),by simp,at_.nil _ _⟩ ?_;rintro ⟨⟨i,sv,Hr⟩,hk⟩;dsimp only at hk;refine bx_ [(2,zp_ d 0),(5,sv),(9,.slice ad ps.length cap),(10,iv_ ps.length),(11,iv_ i)] zl ?_;refine Zj 2 (λH=>?_) λH=>?_
 .obtain rfl:i=ps.length:=by omega
  obtain⟨g,cp,cur,rfl,rfl,K,O,P,C⟩:=hk.2.some zaa_;rw[ycr_]at C;refine Zz 9 ?_;refine f_ (yW_ (ps.map Con.operand) [32,97,110,100,32] zaj_ (pE_ (n:=ps.length) (by rw[C,ydD_])) (by simpa using K) zan_ hl) rfl (@List.perm_append_comm _ [_,_] _) zf rfl λ_=>?_;refine Zz 4 ?_;exact ab_ results352 () (fR_ rfl (by rw[Con.text_eq];simp[Con.kind,Con.parts,A])) (.refl _) zt
 have e:i<ps.length:=by omega
 obtain⟨p,I⟩:∃ p,ps[i]? = some p:=⟨_,yaa_ e⟩;have B:p∈ps:=yad_ I;refine Zz 10 ?_;refine e_ (Z_ ai_ t_ rfl rfl (λv _ h=>aA_ (n:=5) Con.cells_len zae_ (((Con.mem_iff (.mk k nm lo hi ad cap ps) v).1 h.1).1) I) zaa_ zah_) rfl ?_;refine e_ (am_ (ad:=ad) (us:=p.cells) ah_ t_ rfl (λv _ h=>((Con.mem_iff (.mk k nm lo hi ad cap ps) v).1 h.1).1) (Con.cells_len _) (w_ Con.cells_len I)) rfl (x_ aF_ rfl λQ=>fk_ 0 t_ rfl rfl rfl rfl (Zz 5 ?_));refine e_ (cR_ 0 ah_ t_ rfl rfl) rfl (f_ (x p B) rfl (.refl _) (λv _ h=>⟨Con.mem_part (c:=(.mk k nm lo hi ad cap ps)) h.1 B,h.2.1,h.2.2.1,trivial⟩) rfl λ_=>O_ o_ G_ ax_ rfl rfl rfl rfl rfl rfl λM=>?_);refine aj_ elt39 hk.2 rfl rfl (@List.perm_append_comm _ [_,_,_,_] _) rfl (aL_ 0 rfl) (kP_ rfl) zaq_ zaa_ rfl λy G E=>?_;refine A_ (@List.perm_append_comm _ _ [_,_,_,_]) (Zz 8 ?_);exact u_ ⟨(i+1,y,G),e,by rw[Con.take_snoc I,yaY_];exact E⟩ zan_ zl (F:=[_,_]) (@List.perm_append_comm _ [_,_] _) zh
theorem AV_ (c:Con) (m n:Nat) (x:c.kind=6) (q:c.parts.length=1) (hl:c.text.length<=140737488355328) (e:∀ p∈c.parts,Tri prog 379 #[prV m n,p.val] [] [p.memF,prF m,bN_] (λ_:Unit=>str p.operand) (λ_=>[]) (λ_=>[])):Tri prog 353 #[prV m n,c.val] [] [c.memF,prF m,bN_] (λ_:Unit=>str c.text) (λ_=>[]) (λ_=>[]):=by
  obtain⟨k,nm,lo,hi,ad,cap,ps⟩:=c;simp only[Con.kind,Con.parts]at x q e;obtain⟨p,rfl⟩:=ycI_.1 q;have y:[p][0]? = some p:=rfl;have d:p∈[p]:=yai_.2 rfl;have A:(Con.mk k nm lo hi ad cap [p]).text=Lib.join [[115,111,109,101],nm,p.operand] [32]:=by rw[Con.text_eq];simp[Con.kind,Con.parts,Con.name,x]
  rw[A]at hl;refine i_ func353 rfl rfl ntmps353 rfl λB=>?_;refine Zz 2 ?_;refine P_ rfl rfl λE=>P_ rfl rfl λC=>Zz 5 ?_
  refine D_ 4 [0,1,2,3,4,5,6] zk zs (Zz 5 ?_);refine M_ rfl (Z_ ai_ t_ rfl rfl (λv _ h=>aA_ (n:=5) Con.cells_len zae_ (((Con.mem_iff (.mk k nm lo hi ad cap [p]) v).1 h.1).1) y) zaa_ zah_) rfl ?_;refine M_ rfl (am_ (ad:=ad) (us:=p.cells) ah_ t_ rfl (λv _ h=>((Con.mem_iff (.mk k nm lo hi ad cap [p]) v).1 h.1).1) (Con.cells_len _) (w_ Con.cells_len y)) rfl (bs_ (p_ 7 rfl zk (f_ (e p d) rfl (.refl _) (λv _ h=>⟨Con.mem_part (c:=.mk k nm lo hi ad cap [p]) h.1 d,h.2.1,h.2.2.1,trivial⟩) rfl λ_=>Zz 3 ?_)));refine p_ 8 rfl zk (O_ o_ G_ ax_ rfl rfl rfl rfl rfl rfl λF=>Zz 3 ?_);refine p_ 9 rfl zk (f_ (uX_ [[115,111,109,101],nm,p.operand] rfl (ve_ _) zaj_ hl) rfl (.refl _) zf rfl λ_=>Zz 3 ?_);refine D_ 0 [10] zk zs (Zz 5 ?_);exact ab_ results353 () (fR_ rfl A.symm) (.refl _) zt
theorem AU_ (c:Con) (m n:Nat) (d:c.kind=7) (v:c.ok) (hl:c.text.length<=140737488355328):Tri prog 354 #[prV m n,c.val] [] [c.memF,prF m,bN_] (λ_:Unit=>str c.text) (λ_=>[]) (λ_=>[]):=by
  obtain⟨k,nm,lo,hi,ad,cap,ps⟩:=c;simp only[Con.kind]at d;obtain⟨_,_,_,x,h,q,e,_⟩:=v;have y:(Con.mk k nm lo hi ad cap ps).text=Lib.join [nm,[105,110],Lib.itoa lo,[116,111],Lib.itoa hi] [32]:=by rw[Con.text_eq];simp[Con.kind,Con.name,Con.lo,Con.hi,d]
  rw[y]at hl;refine i_ func354 rfl rfl ntmps354 rfl λA=>?_;refine Zz 2 ?_;refine P_ rfl rfl λC=>P_ rfl rfl λB=>Zz 5 ?_
  refine D_ 5 [0,1,2,3,5,6] zk zs (Zz 7 ?_);refine p_ 4 rfl zk (f_ (yZ_ _ x h) rfl (.refl _) zf rfl λ_=>Zz 3 ?_);refine p_ 7 rfl zk (f_ (yZ_ _ q e) rfl (.refl _) zf rfl λ_=>Zz 3 ?_);refine p_ 8 rfl zk (O_ o_ G_ ax_ rfl rfl rfl rfl rfl rfl λE=>Zz 3 ?_);refine p_ 9 rfl zk (f_ (uX_ [nm,[105,110],Lib.itoa lo,[116,111],Lib.itoa hi] rfl (ve_ _) zaj_ hl) rfl (.refl _) zf rfl λ_=>Zz 3 ?_);refine D_ 0 [10] zk zs (Zz 5 ?_);exact ab_ results354 () (fR_ rfl y.symm) (.refl _) zt
theorem AT_ (m n:Nat):∀ (d:Nat) (c:Con),c.sz<=d->c.sz<=64->c.ok->c.fine->Tri prog 307 #[prV m n,c.val] [] [c.memF,prF m,bN_] (λ_:Unit=>str c.text) (λ_=>[]) (λ_=>[]):=by
 intro d
 induction d with
 | zero=>intro c h;have:=c.sz_pos;omega
 | succ d ih =>
   intro c G E e x;have F:=Con.fields x;have hl:=Con.text_len _ c (yaj_ _) e x
   have v:∀ p∈c.parts,Tri prog 379 #[prV m n,p.val] [] [p.memF,prF m,bN_] (λ_:Unit=>str p.operand) (λ_=>[]) (λ_=>[]):=λp q=>by
     have H:=Con.sz_part q;have hl:=Con.text_len _ p (yaj_ _) (Con.ok_part e q) (Con.fine_part x q);exact tZ_ p m n zaa_ (ih p zaa_ zaa_ (Con.ok_part e q) (Con.fine_part x q))
   have A:=F.k1;have B:=F.k7;have hm:=F.mo;have y:=F.le;have hk:c.kind=1\/c.kind=2\/c.kind=3\/c.kind=4\/c.kind=5\/c.kind=6\/c.kind=7:=by omega
   rcases hk with hk|hk|hk|hk|hk|hk|hk
   . exact gh_ c m n zaK_ (pr_top c m n hk)
   . exact gh_ c m n zaK_ (wo_ c m n hk)
   . exact gh_ c m n zaK_ (yv_ c m n hk)
   . exact gh_ c m n zaK_ (ua_ c m n hk F.nm)
   . have C:c.text=Lib.join (c.parts.map Con.operand) [32,97,110,100,32]:=by rw[Con.text_eq];simp[hk]
     rw[hk]at hm y;simp[nd,en_]at hm y
     exact gh_ c m n zaK_ (pr_and c m n hk ⟨by omega,by omega⟩ (by rw[<-C];omega) v)
   . rw[hk]at hm y
     simp[nd,en_]at hm y
     exact gh_ c m n zaK_ (AV_ c m n hk zaa_ zaa_ v)
   . exact gh_ c m n zaK_ (AU_ c m n hk e zaa_)
theorem st_ (c:Con) (h:c.ok):Tri prog 257 #[c.val] [] [c.memF,bN_] (λ_:Unit=>.tuple #[str c.textN,iv_ c.check]) (λ_=>[]) (λ_=>[]):=by
 obtain⟨k,nm,lo,hi,ad,cap,ps⟩:=c;refine i_ func257 rfl rfl ntmps257 rfl λv=>?_;refine Zz 2 ?_;refine P_ rfl rfl λx=>Zz 8 ?_
 refine f_ (eR_ (.mk k nm lo hi ad cap ps) h) rfl (.refl _) zf rfl λ_=>Zj 6 (λd=>?_) λd=>?_
 .obtain⟨e,m⟩:=Con.check_zero d
  refine Zz 7 ?_;refine D_ 4 [1] zk zs (Zz 2 ?_);refine p_ 0 rfl zk (f_ (qS_) rfl (.refl _) zt rfl λq=>Zz 3 ?_);refine p_ 2 rfl zk (f_ (AT_ q.1 q.2 _ (.mk k nm lo hi ad cap ps) (yaj_ _) m h e) rfl (.refl _) zf rfl λ_=>Zz 3 ?_);refine D_ 0 [3,4] zk zs (Zz 6 ?_);exact fP_ results257 () rfl rfl (by simp[Con.textN, *]<;>rfl) (.refl _) zt
 refine Zz 11 ?_;exact fP_ results257 () rfl rfl (by simp[Con.textN, *]<;>rfl) (.refl _) zt
theorem Bf_ (c:Con) (d:c.ok):Tri prog 179 #[c.val] [] [c.memF,bN_] (λ_:Unit=>str c.textN) (λ_=>[]) (λ_=>[]):=by
  obtain⟨k,nm,lo,hi,ad,cap,ps⟩:=c;refine i_ func179 rfl rfl ntmps179 rfl λe=>?_;refine Zz 2 ?_;refine P_ rfl rfl λm=>Zz 6 ?_
  refine f_ (st_ (.mk k nm lo hi ad cap ps) d) rfl (.refl _) (λv _ h=>h) rfl λ_=>Zz 14 ?_
  exact ab_ results179 () rfl (.refl _) zt
theorem cA_ (s:Str) (e:s.length<=140737488351232) :
    Fn0 prog 92 #[str s] (str ([123]++s++[125])):=by
  refine i_ func92 rfl rfl ntmps92 rfl λd=>?_;refine Zz 8 ?_;refine e_ (bS_ rfl rfl zan_) rfl ?_;refine e_ (bS_ rfl rfl zan_) rfl ?_;refine Zz 4 ?_;exact ab_ results92 () rfl (.refl _) zt
theorem fZ_ {G:Prop} (h:G:=by
 exact ab_ results88 () (fR_ rfl (by unfold Con.atom;simp only[Con.kind,Con.name]at *;simp[*])) (.refl _) zt):G:=h
theorem db_ (c:Con) (d:c.ok):Tri prog 88 #[c.val] [] [c.memF,bN_] (λ_:Unit=>str c.atom) (λ_=>[]) (λ_=>[]):=by
 obtain⟨k,nm,lo,hi,ad,cap,ps⟩:=c;refine i_ func88 rfl rfl ntmps88 rfl λy=>?_;refine Zz 2 ?_;refine P_ rfl rfl λA=>Zj 13 (λq=>?_) λq=>?_
 .refine Zj 6 (λx=>?_) λx=>?_
  .refine Zj 6 (λm=>?_) λm=>?_
   .refine Zj 6 (λe=>?_) λe=>?_
    .refine Zz 9 ?_
     refine f_ (Bf_ (.mk k nm lo hi ad cap ps) d) rfl (.refl _) (λv _ h=>h) rfl λ_=>?_;refine e_ (bS_ rfl rfl zbn_) rfl ?_;refine e_ (bS_ rfl rfl zbn_) rfl ?_;refine Zz 4 ?_;exact fZ_
    refine Zz 8 ?_;refine f_ (cA_ nm (Con.ok_name d)) rfl (.refl _) zt rfl λ_=>Zz 4 ?_
    exact fZ_
   refine Zz 12 ?_;exact fZ_
  refine Zz 10 ?_;exact fZ_
 refine Zz 10 ?_;exact fZ_
theorem eqPc (p q:Pc) (w:World):(Op.equalIn 10000 80 p.val q.val).run prog w=.ok (decide (p=q)) w:=by
  have h:=run_equalIn_struct (P:=prog) w 9999 80 p.cells.toArray q.cells.toArray (by simp only[Program.fieldsOf,fL_]) Tryz.stoodInHeld80;refine h.trans ?_;rw[<-Pc.eqb_eq];simp only[Program.fieldsOf,fL_];exact bX_ rfl aQ_ rfl rfl (eqI m_ w) (bX_ rfl ad_ rfl rfl (eqS aO_ w) (bX_ rfl ad_ rfl rfl (eqS aO_ w) (bX_ rfl ad_ rfl rfl (eqS aO_ w) (bX_ rfl ad_ rfl rfl (eqS aO_ w) (bX_ rfl ad_ rfl rfl (eqS aO_ w) (bX_ rfl ad_ rfl rfl (eqS aO_ w) (bX_ rfl aQ_ rfl rfl (eqI m_ w) (bX_ rfl aQ_ rfl rfl (eqI m_ w) (bX_ rfl aQ_ rfl rfl (eqI m_ w) (lb_ w))))))))))
theorem eqFc (p q:Fc) (w:World):(Op.equalIn 10000 104 p.val q.val).run prog w=.ok (decide (p=q)) w:=by
  have h:=run_equalIn_struct (P:=prog) w 9999 104 p.cells.toArray q.cells.toArray (by simp only[Program.fieldsOf,underlying104]) Tryz.stoodInHeld104;refine h.trans ?_;rw[<-Fc.eqb_eq];simp only[Program.fieldsOf,underlying104];exact bX_ rfl aQ_ rfl rfl (eqI m_ w) (bX_ rfl ad_ rfl rfl (eqS aO_ w) (bX_ rfl ad_ rfl rfl (eqS aO_ w) (bX_ rfl ad_ rfl rfl (eqS aO_ w) (bX_ rfl aQ_ rfl rfl (eqI m_ w) (bX_ rfl aQ_ rfl rfl (eqI m_ w) (lb_ w))))))
theorem vx_ (p:Pc):hp_ prog 80 p.val:=λe w=>by
 have hi:∀ (n:Int) (w:World),(Instr.checkKey e (9998+1) 3 (.int .i64 n)).run prog w=.ok () w:=λn w=>MapKept.run_checkKey (d:=.int .i64) m_ zbK_ e 9998
 have h:∀ (n:Str) (w:World),(Instr.checkKey e (9998+1) 9 (str n)).run prog w=.ok () w:=λn w=>MapKept.run_checkKey (d:=.string) aO_ zbj_ e 9998
 refine ckF (n:=9999) fL_ λf m=>?_;simp only[yan_,yaM_,ybW_]at m;rcases m with rfl|rfl|rfl|rfl|rfl|rfl|rfl|rfl|rfl|rfl
 .exact⟨rfl,aQ_,_,rfl,hi _⟩
 .exact⟨rfl,ad_,_,rfl,h _⟩
 .exact⟨rfl,ad_,_,rfl,h _⟩
 .exact⟨rfl,ad_,_,rfl,h _⟩
 .exact⟨rfl,ad_,_,rfl,h _⟩
 .exact⟨rfl,ad_,_,rfl,h _⟩
 .exact⟨rfl,ad_,_,rfl,h _⟩
 .exact⟨rfl,aQ_,_,rfl,hi _⟩
 .exact⟨rfl,aQ_,_,rfl,hi _⟩
 exact⟨rfl,aQ_,_,rfl,hi _⟩
theorem zu_:Elt prog 69 80 10 128:=hj_ underlying69 (z:=.agg (Pc.mk 0 [] [] [] [] [] [] 0 0 0).cells.toArray) zac_ rfl zae_
theorem dO_:gp_ prog 80 [(0,1),(1,1),(2,1),(3,1),(4,1),(5,1),(6,1),(7,1),(8,1),(9,1)] [iv_ 0,str [],str [],str [],str [],str [],str [],iv_ 0,iv_ 0,iv_ 0]:=⟨_,aa_,runUnderlying80,λw=>by simp[ag_,G_]⟩
theorem dt_:gp_ prog 104 [(0,1),(1,1),(2,1),(3,1),(4,1),(5,1)] [iv_ 0,str [],str [],str [],iv_ 0,iv_ 0]:=⟨_,R_,runUnderlying104,λw=>by simp[ag_,G_]⟩
structure CS where
  sv:Value
  bm:Nat
  es:Array MapEntry
  clk:Nat
  Hr:Hp
def fA_ (kb:Nat) (frm:Int) (q:CS):Hp:=(kb,.cells #[.int .i64 frm,q.sv,.map (some q.bm)] 142 (0,0))::(q.bm,.map q.es q.clk)::q.Hr
structure CInv (l:List Pc) (q:CS):Prop where
  row:at_ 80 10 q.sv l.length (l.flatMap Pc.cells) q.Hr
  keys:q.es.toList.map (·.key)=l.map Pc.val
  vals:∀ x∈q.es.toList,x.val=.bool true
theorem CInv.push {l:List Pc} {p:Pc} {sv e:Value} {bm clk:Nat} {es:Array MapEntry} {Hr d:Hp} (h:CInv l ⟨sv,bm,es,clk,Hr⟩) (q:at_ 80 10 e (l.length+1) (l.flatMap Pc.cells++p.cells) d):CInv (l++[p]) ⟨e,bm,es.push ⟨p.val,.bool true,clk⟩,clk+1,d⟩:=by
 refine⟨?_,?_,?_⟩
 .simpa [yaY_] using q
 .have:=h.keys
  simp only at this;simp[this]
 intro x m;simp only[yct_,yah_,yai_]at m;rcases m with m|rfl
 .exact h.vals x m
 rfl
theorem dP_ (p:Pc) {kb C:Nat} (frm:Int) (l:List Pc) (q:CS) (B:CInv l q) (N:l.length<=100000) :
    Tri prog 91 #[zp_ kb 0,.slice (some ⟨C,0,none⟩) 1 1] ((C,.cells p.cells.toArray 80 (0,0))::fA_ kb frm q) [] (λ_:{L:CS // CInv (ins frm l p) L}=>.tuple #[]) (λL=>fA_ kb frm L.1) (λ_=>[]):=by
  obtain⟨k,a,b,c,r,s,t,lo,hi,f⟩:=p;obtain⟨sv,bm,es,clk,Hr⟩:=q;refine i_ func91 rfl rfl ntmps91 rfl λP=>?_;refine Zz 8 ?_;refine bx_ [(0,zp_ kb 0),(6,.slice (some ⟨C,0,none⟩) 1 1),(7,iv_ 1),(8,iv_ ((0:Nat):Int))] zl ?_;refine bV_ (ι:={x:Nat×CS // (x.1=0/\x.2=⟨sv,bm,es,clk,Hr⟩)\/(x.1=1/\CInv (ins frm l ⟨k,a,b,c,r,s,t,lo,hi,f⟩) x.2)}) (λx=>[(0,zp_ kb 0),(6,.slice (some ⟨C,0,none⟩) 1 1),(7,iv_ 1),(8,iv_ x.1.1)]) (λx=>_::fA_ kb frm x.1.2) (λ_=>_) (λx=>1 - x.1.1) ⟨(0,⟨sv,bm,es,clk,Hr⟩),.inl ⟨rfl,rfl⟩⟩ ?_;rintro ⟨⟨i,M⟩,hk⟩;dsimp only at hk;rcases hk with⟨rfl,rfl⟩|⟨rfl,O⟩
  . refine bx_ [(0,zp_ kb 0),(6,.slice (some ⟨C,0,none⟩) 1 1),(7,iv_ 1),(8,iv_ 0)] zl ?_;refine Zj 2 (λe=>?_) λe=>?_
    . exact absurd zae_ e
    . refine Zz 10 ?_;refine e_ (fb_ J_ K_ rfl rfl zae_ zae_) rfl (Zz 1 ?_);refine x_ aa_ rfl λG=>n_ 0 K_ rfl rfl rfl rfl rfl rfl (Zz 9 ?_)
      refine n_ 0 ag_ rfl rfl rfl rfl rfl rfl (Zz 3 ?_)
      by_cases hm:(⟨k,a,b,c,r,s,t,lo,hi,frm⟩:Pc)∈l
      . obtain⟨j,J⟩:=(hQ_ fL_ (λp q w=>eqPc p q w) (⟨k,a,b,c,r,s,t,lo,hi,frm⟩:Pc) l es.toList B.keys).2 hm B.vals;refine Zz 1 ?_;refine D_ 0 [0,1,2,3,4,5,6] zk zs (Zz 5 ?_);refine M_ rfl (eY_ jN_ rfl rfl (λv h _=>(h.own _ (yad_ (i:=3) rfl)).1) (vx_ (⟨k,a,b,c,r,s,t,lo,hi,frm⟩:Pc)) J) rfl (M_ rfl (as_ rfl) rfl (Zz 11 ?_));exact u_ ⟨(1,⟨sv,bm,es,clk,Hr⟩),.inr ⟨rfl,by simp only[ins,yao_ hm];exact B⟩⟩ ydN_ zl (F:=[_]) (@List.perm_append_comm _ [_] _) zh
      . have J:=(hQ_ fL_ (λp q w=>eqPc p q w) (⟨k,a,b,c,r,s,t,lo,hi,frm⟩:Pc) l es.toList B.keys).1 hm;refine Zz 1 ?_;refine D_ 0 [0,1,2,3,4,5,6] zk zs (Zz 5 ?_);refine M_ rfl (eI_ jN_ aG_ rfl rfl (λv h _=>(h.own _ (yad_ (i:=3) rfl)).1) (vx_ (⟨k,a,b,c,r,s,t,lo,hi,frm⟩:Pc)) J) rfl (M_ rfl (as_ rfl) rfl (Zz 5 ?_));refine ak_ [(G,.cells #[iv_ k,str a,str b,str c,str r,str s,str t,iv_ lo,iv_ hi,iv_ frm] 80 (0,0)),(C,.cells #[iv_ k,str a,str b,str c,str r,str s,str t,iv_ lo,iv_ hi,iv_ f] 80 (0,0)),(kb,.cells #[iv_ frm,sv,.map (some bm)] 142 (0,0))] zk ?_;refine D_ 1 [0,1,2,3,4] zk (λ_ a b=>⟨Vw.sat.sub a,b⟩) (Zz 6 ?_);refine p_ 5 rfl zk (aE_ 3 (.inr rfl) jN_ rfl rfl rfl rfl (vx_ (⟨k,a,b,c,r,s,t,lo,hi,frm⟩:Pc)) J (Zz 2 ?_));refine V_ (λ_ a b=>⟨Vw.sat.sub a,b⟩) (Zz 2 ?_);refine ak_ [(G,.cells #[iv_ k,str a,str b,str c,str r,str s,str t,iv_ lo,iv_ hi,iv_ frm] 80 (0,0))] zk ?_;refine D_ 6 [0,1,2,3,5] zk (λ_ a b=>⟨Vw.sat.sub a,b⟩) (Zz 6 ?_);refine gL_ 4 6 rfl rfl zk ?_ ?_
        . refine Zz 3 ?_;refine V_ (λ_ a b=>⟨Vw.sat.sub a,b⟩) (p_ 6 rfl zk (O_ J_ K_ aa_ rfl rfl rfl rfl rfl rfl λK=>Zz 2 ?_));refine V_ (λ_ a b=>⟨Vw.sat.sub a.tail,b⟩) (p_ 7 rfl zk (aj_ (news:=Pc.cells (⟨k,a,b,c,r,s,t,lo,hi,frm⟩:Pc)) zu_ B.row rfl rfl (@List.perm_append_comm _ [_,_,_,_,_] _) rfl (aL_ 0 rfl) (kP_ rfl) zaq_ zaa_ rfl λE H d=>?_));refine A_ (@List.perm_append_comm _ _ [_,_,_,_,_]) ?_;obtain⟨y,A,m,rfl,rfl,I⟩:=d.some zaa_;refine Zz 2 ?_;refine V_ (λ_ a b=>⟨Vw.sat.sub a.tail,b⟩) (D_ 1 [8,9] zk (λ_ a b=>⟨Vw.sat.sub a.tail,b⟩) (Zz 3 ?_));refine p_ 10 rfl zk (n_ 3 qL_ rfl rfl rfl rfl rfl rfl (Zz 2 ?_));refine V_ (λ_ a b=>⟨Vw.sat.sub a.tail,b⟩) (Zz 7 ?_);exact u_ ⟨(1,⟨.slice (some ⟨y,0,none⟩) (l.length+1) A,bm,es.push ⟨Pc.val (⟨k,a,b,c,r,s,t,lo,hi,frm⟩:Pc),.bool true,clk⟩,clk+1,[(y,.cells m 80 (0,0))]⟩),.inr ⟨rfl,by simp only[ins,yag_ hm];exact B.push d⟩⟩ ydN_ zl (F:=[_,_]) (@List.perm_append_comm _ [_,_] _) zh
        . refine O_ J_ K_ aa_ rfl rfl rfl rfl rfl rfl λK=>Zz 2 ?_
          refine V_ (λ_ a b=>⟨Vw.sat.sub a.tail,b⟩) (p_ 4 rfl zk (Zz 3 ?_));refine V_ (λ_ a b=>⟨Vw.sat.sub a.tail,b⟩) (p_ 7 rfl zk (aj_ (news:=Pc.cells (⟨k,a,b,c,r,s,t,lo,hi,frm⟩:Pc)) zu_ B.row rfl rfl (@List.perm_append_comm _ [_,_,_,_,_] _) rfl (aL_ 0 rfl) (kP_ rfl) zaq_ zaa_ rfl λE H d=>?_));refine A_ (@List.perm_append_comm _ _ [_,_,_,_,_]) ?_;obtain⟨y,A,m,rfl,rfl,I⟩:=d.some zaa_;refine Zz 2 ?_;refine V_ (λ_ a b=>⟨Vw.sat.sub a.tail,b⟩) (D_ 1 [8,9] zk (λ_ a b=>⟨Vw.sat.sub a.tail,b⟩) (Zz 3 ?_));refine p_ 10 rfl zk (n_ 3 qL_ rfl rfl rfl rfl rfl rfl (Zz 2 ?_));refine V_ (λ_ a b=>⟨Vw.sat.sub a.tail,b⟩) (Zz 7 ?_);exact u_ ⟨(1,⟨.slice (some ⟨y,0,none⟩) (l.length+1) A,bm,es.push ⟨Pc.val (⟨k,a,b,c,r,s,t,lo,hi,frm⟩:Pc),.bool true,clk⟩,clk+1,[(y,.cells m 80 (0,0))]⟩),.inr ⟨rfl,by simp only[ins,yag_ hm];exact B.push d⟩⟩ ydN_ zl (F:=[_,_]) (@List.perm_append_comm _ [_,_] _) zh
  . refine bx_ [(0,zp_ kb 0),(6,.slice (some ⟨C,0,none⟩) 1 1),(7,iv_ 1),(8,iv_ 1)] zl ?_;refine Zj 2 (λe=>?_) λe=>?_
    . refine Zz 6 ?_;exact co_ results91 ⟨M,O⟩ rfl (F:=[_]) (@List.perm_append_comm _ [_] _) zt
    . exact absurd e zae_
theorem AA_:gp_ prog 142 [(0,1),(1,1),(2,1)] [iv_ 0,.slice none 0 0,.map none]:=⟨_,zeroValue142,runUnderlying142,λw=>by simp[ag_,qL_,sizeOf140]⟩
theorem iO_ (frm:Int):Tri prog 85 #[iv_ frm] [] [] (λx:Nat×Nat=>zp_ x.1 0) (λx=>fA_ x.1 frm ⟨.slice none 0 0,x.2,#[],0,[]⟩) (λ_=>[]):=by
  refine i_ func85 rfl rfl ntmps85 rfl λh=>?_;refine Zz 8 ?_;refine bf_ rfl λe=>e_ (C_ AA_ rfl rfl) rfl (P_ rfl rfl λd=>Zz 4 ?_)
  exact ab_ results85 (d,e) rfl (F:=[]) (.refl _) zt
def kF (b kb:Nat):Fct:=ch_ b (.cells [zp_ kb 0].toArray 130 (0,0))
def lFn (b bk:Nat):Value:=.func (.func 177) #[] #[zp_ b 0,zp_ bk 0]
def lF (b bk:Nat):Fct:=ch_ b (.cells [lFn b bk].toArray 132 (0,0))
def rFn (b bk:Nat):Value:=.func (.func 178) #[] #[zp_ bk 0,zp_ b 0]
def rcF (b bk:Nat):Fct:=ch_ b (.cells [rFn b bk].toArray 132 (0,0))
theorem vf_ (kb:Nat):Tri prog 86 #[zp_ kb 0] [] [] (λx:Nat×Nat×Nat=>.tuple #[lFn x.2.1 x.1,rFn x.2.2 x.1]) (λ_=>[]) (λx=>[kF x.1 kb,lF x.2.1 x.1,rcF x.2.2 x.1]):=by
  refine i_ func86 rfl rfl ntmps86 rfl λy=>?_;refine Zz 2 ?_;refine P_ rfl rfl λd=>x_ zeroValue132 rfl λe=>x_ zeroValue132 rfl λm=>Zz 4 ?_
  refine e_ (aY_ rfl rfl) rfl (n_ 1 sizeOf132 rfl rfl rfl rfl rfl rfl (Zz 4 ?_));refine e_ (aY_ rfl rfl) rfl (n_ 0 sizeOf132 rfl rfl rfl rfl rfl rfl (Zz 4 ?_));refine D_ 2 [0,1] zk zs (Zz 3 ?_);refine p_ 2 rfl zk (n_ 1 sizeOf132 rfl rfl rfl rfl rfl rfl (Zz 3 ?_));refine p_ 3 rfl zk (n_ 0 sizeOf132 rfl rfl rfl rfl rfl rfl (Zz 6 ?_));refine iM_ 0 rfl ?_;refine iM_ 0 rfl ?_;refine iM_ 0 rfl ?_;exact AP_ (d,e,m) (λa v q A h=>AQ_ results86 ku_ ku_ q rfl rfl (ou_ (cs:=[lFn e d]) 0 h.2.1 rfl) (ou_ (cs:=[rFn m d]) 0 h.2.2.1 rfl)) (F:=[]) (.refl _) zf
theorem Con.mem_tail {c:Con} (d:c.ok) {v:Vw} (h:c.mem v):bG_ v (sad c.ad c.cap 1 5) ((c.parts.drop 1).flatMap Con.cells):=by
  have:=((Con.mem_iff c v).1 h).1.slice Con.cells_len (Con.ok_len d).1 1 c.parts.length;rwa [yab_ zaj_]at this
theorem Con.drop_at {ps:List Con} {p:Con} {i:Nat} (d:ps[i]? = some p):ps.drop i=p::ps.drop (i+1):=by
  have hi:=(yac_.1 d).1;rw[yaa_ hi]at d;simp only[yak_]at d;subst d;exact ybi_ hi
theorem Con.szs_append:∀ (xs ys:List Con),Con.sz.szs (xs++ys)=Con.sz.szs xs+Con.sz.szs ys
  | [],ys=>by simp[Con.sz.szs]
  | x::xs,ys=>by simp only[yaJ_,Con.sz.szs,Con.szs_append xs ys];omega
theorem Con.sz_at {ps:List Con} {p:Con} {i:Nat} (d:ps[i]? = some p):Con.sz.szs (ps.take i)+p.sz<=Con.sz.szs ps:=by
  have e:Con.sz.szs ps=Con.sz.szs (ps.take i++(p::ps.drop (i+1))):=by rw[<-Con.drop_at d,ybK_]
  rw[e,Con.szs_append];simp only[Con.sz.szs];omega
theorem Con.lefts_len (frm:Int) (ps:List Con) (i:Nat) (l:List Pc):(Con.leftP.lefts frm (ps.take i) l).length+(ps.take i).length<=l.length+2*Con.sz.szs (ps.take i):=by
  generalize ps.take i=qs
  induction qs generalizing l with
  | nil=>simp[Con.leftP.lefts]
  | cons p qs ih =>
    have d:=Con.leftP_len frm _ p (yaj_ _) l;have e:=ih (p.leftP frm l);simp only[Con.leftP.lefts,Con.sz.szs,yal_];omega
theorem Con.rights_len (frm:Int) (a:Str) (ps:List Con) (i:Nat) (l:List Pc):(Con.rightP.rights frm a (ps.take i) l).length<=l.length+2*Con.sz.szs (ps.take i):=by
  generalize ps.take i=qs
  induction qs generalizing l with
  | nil=>simp[Con.rightP.rights]
  | cons p qs ih =>
    have d:=cj_ frm l ⟨1,a,[],p.atom,[],[],[],0,0,0⟩;have e:=Con.rightP_len frm _ p (yaj_ _) (ins frm l ⟨1,a,[],p.atom,[],[],[],0,0,0⟩);have h:=ih (p.rightP frm (ins frm l ⟨1,a,[],p.atom,[],[],[],0,0,0⟩));simp only[Con.rightP.rights,Con.sz.szs];omega
theorem Con.headD_atom {ps:List Con} {p:Con} (d:ps[0]? = some p):(ps.map Con.atom).headD []=p.atom:=by cases ps<;>simp_all
theorem Con.leftP5 {c:Con} (h:c.kind=5) (frm:Int) (l:List Pc):c.leftP frm l=Con.andP frm c (c.parts.drop 1) 1 ((c.parts.map Con.atom).headD []) (Con.leftP.lefts frm c.parts l):=by rw[Con.leftP_eq,yao_ h]
theorem Con.leftP6 {c p:Con} (h:c.kind=6) (d:c.parts=[p]) (frm:Int) (l:List Pc):c.leftP frm l=ins frm (p.leftP frm l) ⟨4,p.atom,[],c.atom,c.name,[],[],0,0,0⟩:=by
  rw[Con.leftP_eq,yag_ zaa_,yao_ h,d];rfl
theorem Con.leftP7 {c:Con} (h:c.kind=7) (frm:Int) (l:List Pc):c.leftP frm l=ins frm l ⟨9,[],[],c.atom,c.name,[],[],c.lo,c.hi,0⟩:=by rw[Con.leftP_eq,yag_ zaa_,yag_ zaa_,yao_ h]
theorem Con.leftP0 {c:Con} (e:c.kind≠5) (h:c.kind≠6) (d:c.kind≠7) (frm:Int) (l:List Pc):c.leftP frm l=l:=by rw[Con.leftP_eq,yag_ e,yag_ h,yag_ d]
theorem Con.rightP5 {c:Con} (h:c.kind=5) (frm:Int) (l:List Pc):c.rightP frm l=Con.rightP.rights frm c.atom c.parts l:=by rw[Con.rightP_eq,yao_ h]
theorem Con.rightP6 {c p:Con} (h:c.kind=6) (d:c.parts=[p]) (frm:Int) (l:List Pc):c.rightP frm l=p.rightP frm (ins frm l ⟨3,c.atom,[],p.atom,c.name,[],[],0,0,0⟩):=by
  rw[Con.rightP_eq,yag_ zaa_,yao_ h,d];rfl
theorem Con.rightP7 {c:Con} (h:c.kind=7) (frm:Int) (l:List Pc):c.rightP frm l=ins frm l ⟨8,c.atom,[],[],c.name,[],[],c.lo,c.hi,0⟩:=by rw[Con.rightP_eq,yag_ zaa_,yag_ zaa_,yao_ h]
theorem Con.rightP0 {c:Con} (e:c.kind≠5) (h:c.kind≠6) (d:c.kind≠7) (frm:Int) (l:List Pc):c.rightP frm l=l:=by rw[Con.rightP_eq,yag_ e,yag_ h,yag_ d]
theorem kf_:gp_ prog 28 [(0,1),(1,1),(2,1),(3,1),(4,1)] [iv_ 0,str [],iv_ 0,iv_ 0,.slice none 0 0]:=⟨_,aF_,cd_,λw=>by simp[ag_,G_,sizeOf26]⟩
theorem lD_ {kb bk bs:Nat} {frm:Int}:∀ (d:Nat) (c:Con),c.sz<=d->c.ok->c.fine->∀ (l:List Pc) (q:CS),CInv l q->l.length+2*c.sz<=100000->
    Tri prog 177 #[c.val,zp_ bs 0,zp_ bk 0] (fA_ kb frm q) [c.memF,bN_,kF bk kb,lF bs bk] (λ_:{W:CS // CInv (c.leftP frm l) W}=>.tuple #[]) (λW=>fA_ kb frm W.1) (λ_=>[]):=by
  intro d
  induction d with
  | zero=>intro c h;have:=c.sz_pos;omega
  | succ d ih =>
    intro c hd y X l q V hl;have F:=Con.fields X;have K:=F.le;have J:=F.mo;obtain⟨k,nm,lo,hi,ad,cap,ps⟩:=c;have R:=Con.ok_len y;have a2:(Con.mk k nm lo hi ad cap ps).sz=1+Con.sz.szs ps:=by simp only[Con.sz]
    have a0:=Con.szs_len ps;simp only[Con.parts,Con.cap,Con.kind]at R K J;refine i_ func177 rfl rfl ntmps177 rfl λa1=>?_;refine Zz 2 ?_;refine P_ rfl rfl λC=>Zj 11 (λN=>?_) λN=>?_
    . refine Zj 6 (λE=>?_) λE=>?_
      . refine Zj 6 (λI=>?_) λI=>?_
        . refine Zz 6 ?_;exact co_ results177 ⟨q,(by rw[Con.leftP0 (c:=(.mk k nm lo hi ad cap ps)) zal_ zal_ zal_];exact V)⟩ rfl (F:=[_]) (@List.perm_append_comm _ [_] _) zt
        . refine Zz 4 ?_;refine ak_ [(C,.cells (Con.cells (Con.mk k nm lo hi ad cap ps)).toArray 28 (0,0))] zk ?_;refine D_ 4 [0,1,2,3,4,5,6,7] zk (λ_ a b=>⟨Vw.sat.sub a,b⟩) (M_ rfl (dw_ (cs:=[zp_ kb 0]) ra_ rfl (λv _ h=>h.2.2.1) rfl) rfl (Zz 8 ?_));refine p_ 8 rfl zk (f_ (db_ (.mk k nm lo hi ad cap ps) y) rfl (.refl _) zf rfl λ_=>Zz 2 ?_);refine V_ (λ_ a b=>⟨Vw.sat.sub a,b⟩) (D_ 2 [9] zk (λ_ a b=>⟨Vw.sat.sub a,b⟩) (M_ rfl (C_ dO_ rfl rfl) rfl (bs_ (p_ 10 rfl zk (O_ J_ K_ aa_ rfl rfl rfl rfl rfl rfl λL=>Zz 2 ?_)))));refine V_ (λ_ a b=>⟨Vw.sat.sub a.tail,b⟩) (p_ 11 rfl zk (f_ (dP_ ⟨9,[],[],Con.atom (.mk k nm lo hi ad cap ps),nm,[],[],lo,hi,0⟩ frm l q V zaa_) rfl (.cons _ (@List.perm_append_comm _ [_] _)) zt rfl λx=>?_));obtain⟨G,A⟩:=x;refine A_ (@List.perm_append_comm _ _ [_]) (Zz 2 ?_);refine V_ (λ_ a b=>⟨Vw.sat.sub a,b⟩) (Zz 2 ?_);exact co_ results177 ⟨G,(by rw[Con.leftP7 (c:=(.mk k nm lo hi ad cap ps)) zal_];exact A)⟩ rfl (F:=[_]) (@List.perm_append_comm _ [_] _) zt
      . rw[E]at K J;simp[nd,en_]at K J
        obtain⟨p,T⟩:=ycI_.1 (show ps.length=1 by omega);have B:ps[0]? = some p:=by rw[T];rfl
        have m:p∈ps:=yad_ B;refine Zz 5 ?_;refine ak_ [(C,.cells (Con.cells (Con.mk k nm lo hi ad cap ps)).toArray 28 (0,0))] zk ?_;refine D_ 1 [0,1,2,3,4] zk (λ_ a b=>⟨Vw.sat.sub a,b⟩) (M_ rfl (dw_ (cs:=[lFn bs bk]) ku_ rfl (λv _ h=>h.2.2.2.1) rfl) rfl (Zz 2 ?_));refine M_ rfl (Z_ ai_ t_ rfl rfl (λv _ h=>aA_ (n:=5) Con.cells_len zae_ (((Con.mem_iff (.mk k nm lo hi ad cap ps) v).1 h.1).1) B) zaa_ zah_) rfl ?_;refine M_ rfl (am_ (ad:=ad) (us:=p.cells) ah_ t_ rfl (λv _ h=>((Con.mem_iff (.mk k nm lo hi ad cap ps) v).1 h.1).1) (Con.cells_len _) (w_ Con.cells_len B)) rfl (bs_ (p_ 5 rfl zk (ap_ (ih p zbM_ (Con.ok_part (c:=(.mk k nm lo hi ad cap ps)) y m) (Con.fine_part (c:=(.mk k nm lo hi ad cap ps)) X m) l q V (by have:=Con.sz_at B;omega)) rfl rfl (@List.perm_append_comm _ [_] _) (λv _ h=>by exact⟨Con.mem_part (c:=(.mk k nm lo hi ad cap ps)) h.1 m,h.2⟩) rfl λx=>?_)));obtain⟨G,A⟩:=x;refine A_ (@List.perm_append_comm _ _ [_]) (Zz 2 ?_);refine V_ (λ_ a b=>⟨Vw.sat.sub a,b⟩) (Zz 2 ?_);refine ak_ [(C,.cells (Con.cells (Con.mk k nm lo hi ad cap ps)).toArray 28 (0,0))] zk ?_;refine D_ 5 [0,1,2,3,4,5,6,8] zk (λ_ a b=>⟨Vw.sat.sub a,b⟩) (M_ rfl (dw_ (cs:=[zp_ kb 0]) ra_ rfl (λv _ h=>h.2.2.1) rfl) rfl (Zz 4 ?_));refine M_ rfl (Z_ ai_ t_ rfl rfl (λv _ h=>aA_ (n:=5) Con.cells_len zae_ (((Con.mem_iff (.mk k nm lo hi ad cap ps) v).1 h.1).1) B) zaa_ zah_) rfl ?_;refine M_ rfl (am_ (ad:=ad) (us:=p.cells) ah_ t_ rfl (λv _ h=>((Con.mem_iff (.mk k nm lo hi ad cap ps) v).1 h.1).1) (Con.cells_len _) (w_ Con.cells_len B)) rfl (Zz 2 ?_);refine p_ 7 rfl zk (f_ (db_ p (Con.ok_part (c:=(.mk k nm lo hi ad cap ps)) y m)) rfl (.refl _) (λv _ h=>⟨Con.mem_part (c:=(.mk k nm lo hi ad cap ps)) h.1 m,h.2.1,trivial⟩) rfl λ_=>Zz 2 ?_);refine V_ (λ_ a b=>⟨Vw.sat.sub a,b⟩) (p_ 9 rfl zk (f_ (db_ (.mk k nm lo hi ad cap ps) y) rfl (.refl _) zf rfl λ_=>Zz 2 ?_));refine V_ (λ_ a b=>⟨Vw.sat.sub a,b⟩) (D_ 2 [10] zk (λ_ a b=>⟨Vw.sat.sub a,b⟩) (M_ rfl (C_ dO_ rfl rfl) rfl (bs_ (p_ 11 rfl zk (O_ J_ K_ aa_ rfl rfl rfl rfl rfl rfl λL=>Zz 2 ?_)))));refine V_ (λ_ a b=>⟨Vw.sat.sub a.tail,b⟩) (p_ 12 rfl zk (f_ (dP_ ⟨4,p.atom,[],Con.atom (.mk k nm lo hi ad cap ps),nm,[],[],0,0,0⟩ frm (p.leftP frm l) G A (by have:=Con.leftP_len frm _ p (yaj_ _) l;have:=Con.sz_at B;omega)) rfl (.cons _ (@List.perm_append_comm _ [_] _)) zt rfl λx=>?_));obtain⟨H,Q⟩:=x;refine A_ (@List.perm_append_comm _ _ [_]) (Zz 2 ?_);refine V_ (λ_ a b=>⟨Vw.sat.sub a,b⟩) (Zz 2 ?_);exact co_ results177 ⟨H,(by rw[Con.leftP6 (c:=(.mk k nm lo hi ad cap ps)) (p:=p) zal_ T];exact Q)⟩ rfl (F:=[_]) (@List.perm_append_comm _ [_] _) zt
    . rw[N]at K J;simp[nd,en_]at K J
      refine Zz 14 ?_;refine bx_ [(1,zp_ bs 0),(2,zp_ bk 0),(3,zp_ C 0),(15,.slice ad ps.length cap),(16,iv_ ps.length),(17,iv_ ((0:Nat):Int))] zl ?_;refine bV_ (ι:={x:Nat×CS // x.1<=ps.length/\CInv (Con.leftP.lefts frm (ps.take x.1) l) x.2}) (λx=>[(1,zp_ bs 0),(2,zp_ bk 0),(3,zp_ C 0),(15,.slice ad ps.length cap),(16,iv_ ps.length),(17,iv_ x.1.1)]) (λx=>_::fA_ kb frm x.1.2) (λ_=>_) (λx=>ps.length - x.1.1) ⟨(0,q),by simp,by simpa [Con.leftP.lefts] using V⟩ ?_;rintro ⟨⟨i,G⟩,hk⟩;dsimp only at hk;refine bx_ [(1,zp_ bs 0),(2,zp_ bk 0),(3,zp_ C 0),(15,.slice ad ps.length cap),(16,iv_ ps.length),(17,iv_ i)] zl ?_;refine Zj 2 (λE=>?_) λE=>?_
      . obtain rfl:i=ps.length:=by omega
        rw[ycr_]at hk;obtain⟨p,B⟩:∃ p,ps[0]? = some p:=⟨_,yaa_ (show 0<ps.length by omega)⟩;have m:p∈ps:=yad_ B;refine Zz 10 ?_;refine e_ (Z_ ai_ t_ rfl rfl (λv _ h=>aA_ (n:=5) Con.cells_len zae_ (((Con.mem_iff (.mk k nm lo hi ad cap ps) v).1 h.1).1) B) zaa_ zah_) rfl ?_;refine e_ (am_ (ad:=ad) (us:=p.cells) ah_ t_ rfl (λv _ h=>((Con.mem_iff (.mk k nm lo hi ad cap ps) v).1 h.1).1) (Con.cells_len _) (w_ Con.cells_len B)) rfl (f_ (db_ p (Con.ok_part (c:=(.mk k nm lo hi ad cap ps)) y m)) rfl (.refl _) (λv _ h=>⟨Con.mem_part (c:=(.mk k nm lo hi ad cap ps)) h.1 m,h.2.1,trivial⟩) rfl λ_=>Zz 7 ?_);refine e_ (cV_ (i:=1) (j:=ps.length) (kl:=.i64) (kh:=.i64) ai_ t_ rfl rfl rfl zaa_ (by first|omega|(simp only[Con.cap];omega))) rfl ?_;refine Zz 5 ?_;refine bx_ [(1,zp_ bs 0),(2,zp_ bk 0),(3,zp_ C 0),(6,str p.atom),(32,.slice (sad ad cap 1 5) (ps.length - 1) (cap - 1)),(33,iv_ ((ps.length - 1:Nat):Int)),(34,iv_ ((0:Nat):Int))] zl ?_;have Z:=Con.headD_atom B;have S:=Con.lefts_len frm ps ps.length l;rw[ycr_]at S;generalize p.atom=f0 at Z ⊢
        refine bV_ (ι:={x:Nat×Str×List Pc×CS // x.1<=ps.length - 1/\CInv x.2.2.1 x.2.2.2/\x.2.2.1.length<=(Con.leftP.lefts frm ps l).length+x.1/\Con.andP frm (.mk k nm lo hi ad cap ps) (ps.drop 1) 1 f0 (Con.leftP.lefts frm ps l)=Con.andP frm (.mk k nm lo hi ad cap ps) (ps.drop (1+x.1)) (1+x.1) x.2.1 x.2.2.1}) (λx=>[(1,zp_ bs 0),(2,zp_ bk 0),(3,zp_ C 0),(6,str x.1.2.1),(32,.slice (sad ad cap 1 5) (ps.length - 1) (cap - 1)),(33,iv_ ((ps.length - 1:Nat):Int)),(34,iv_ x.1.1)]) (λx=>_::fA_ kb frm x.1.2.2.2) (λ_=>_) (λx=>ps.length - 1 - x.1.1) ⟨(0,f0,(Con.leftP.lefts frm ps l),G),by simp,hk.2,by simp,rfl⟩ ?_;rintro ⟨⟨i,f,P,H⟩,U⟩;dsimp only at U;refine bx_ [(1,zp_ bs 0),(2,zp_ bk 0),(3,zp_ C 0),(6,str f),(32,.slice (sad ad cap 1 5) (ps.length - 1) (cap - 1)),(33,iv_ ((ps.length - 1:Nat):Int)),(34,iv_ i)] zl ?_;refine Zj 2 (λI=>?_) λI=>?_
        . refine Zz 6 ?_;exact co_ results177 ⟨H,(by have e:=U.2.2.2;rw[yaT_ (show ps.length<=1+i by omega)]at e;rw[Con.leftP5 (c:=(.mk k nm lo hi ad cap ps)) zal_];simp only[Con.parts,Z];rw[e];exact U.2.1)⟩ rfl (F:=[_]) (@List.perm_append_comm _ [_] _) zt
        . have O:i<ps.length - 1:=by omega
          obtain⟨p,B⟩:∃ p,(ps.drop 1)[i]? = some p:=⟨_,yaa_ zan_⟩;have M:ps[1+i]? = some p:=by rw[<-ycW_];exact B
          have m:p∈ps:=yad_ M;refine Zz 11 ?_;refine e_ (Z_ ai_ t_ rfl rfl (λv _ h=>aA_ (n:=5) Con.cells_len zae_ ((Con.mem_tail (c:=(.mk k nm lo hi ad cap ps)) y h.1)) B) zaa_ zah_) rfl ?_;refine e_ (am_ (ad:=(sad ad cap 1 5)) (us:=p.cells) ah_ t_ rfl (λv _ h=>(Con.mem_tail (c:=(.mk k nm lo hi ad cap ps)) y h.1)) (Con.cells_len _) (w_ Con.cells_len B)) rfl (x_ aF_ rfl λL=>Zz 1 ?_);refine fk_ 0 t_ rfl rfl rfl rfl (Zz 8 ?_);refine e_ (ao_ (cV_ (i:=0) (j:=i+2) (kl:=.i64) (kh:=.i64) ai_ t_ rfl rfl rfl zaa_ (by first|omega|(simp only[Con.cap];omega))) (show _=Value.slice (sad ad cap 0 5) (ps.take (i+2)).length (cap - 0) by rw[yaD_,ybL_ zaa_];rfl)) rfl ?_;refine e_ (C_ kf_ rfl rfl) rfl (f_ (db_ (Con.pre (.mk k nm lo hi ad cap ps) (i+2)) (Con.pre_ok y _)) rfl (.refl _) (λv _ h=>⟨Con.pre_mem y h.1 _,h.2.1,trivial⟩) rfl λ_=>Zz 4 ?_);refine ak_ [(L,.cells p.cells.toArray 28 (0,0)),(C,.cells (Con.cells (Con.mk k nm lo hi ad cap ps)).toArray 28 (0,0))] zk ?_;refine D_ 4 [0,1,2,4] zk (λ_ a b=>⟨Vw.sat.sub a,b⟩) (M_ rfl (dw_ (cs:=[zp_ kb 0]) ra_ rfl (λv _ h=>h.2.2.1) rfl) rfl (Zz 1 ?_));refine M_ rfl (cR_ 0 ah_ t_ rfl rfl) rfl (Zz 2 ?_);refine p_ 3 rfl zk (f_ (db_ p (Con.ok_part (c:=(.mk k nm lo hi ad cap ps)) y m)) rfl (.refl _) (λv _ h=>⟨Con.mem_part (c:=(.mk k nm lo hi ad cap ps)) h.1 m,h.2.1,trivial⟩) rfl λ_=>Zz 2 ?_);refine V_ (λ_ a b=>⟨Vw.sat.sub a,b⟩) (D_ 2 [5] zk (λ_ a b=>⟨Vw.sat.sub a,b⟩) (M_ rfl (C_ dO_ rfl rfl) rfl (bs_ (p_ 6 rfl zk (O_ J_ K_ aa_ rfl rfl rfl rfl rfl rfl λa3=>Zz 2 ?_)))));refine V_ (λ_ a b=>⟨Vw.sat.sub a.tail,b⟩) (p_ 7 rfl zk (f_ (dP_ ⟨2,f,p.atom,(Con.pre (.mk k nm lo hi ad cap ps) (i+2)).atom,[],[],[],0,0,0⟩ frm P H U.2.1 zaa_) rfl (.cons _ (@List.perm_append_comm _ [_,_] _)) zt rfl λx=>?_));obtain⟨Y,A⟩:=x;refine A_ (@List.perm_append_comm _ _ [_,_]) (Zz 2 ?_);refine V_ (λ_ a b=>⟨Vw.sat.sub a,b⟩) (Zz 12 ?_);exact u_ ⟨(i+1,(Con.pre (.mk k nm lo hi ad cap ps) (i+2)).atom,(ins frm P ⟨2,f,p.atom,(Con.pre (.mk k nm lo hi ad cap ps) (i+2)).atom,[],[],[],0,0,0⟩),Y),by omega,A,by have:=cj_ frm P ⟨2,f,p.atom,(Con.pre (.mk k nm lo hi ad cap ps) (i+2)).atom,[],[],[],0,0,0⟩;dsimp only;omega,by rw[U.2.2.2,Con.drop_at M];simp only[Con.andP];rw[show 1+i+1=i+2 by omega,show 1+(i+1)=i+2 by omega]⟩ zan_ zl (F:=[_]) (@List.perm_append_comm _ [_] _) zh
      . have O:i<ps.length:=by omega
        obtain⟨p,B⟩:∃ p,ps[i]? = some p:=⟨_,yaa_ O⟩;have m:p∈ps:=yad_ B;refine Zz 10 ?_;refine e_ (Z_ ai_ t_ rfl rfl (λv _ h=>aA_ (n:=5) Con.cells_len zae_ (((Con.mem_iff (.mk k nm lo hi ad cap ps) v).1 h.1).1) B) zaa_ zah_) rfl ?_;refine e_ (am_ (ad:=ad) (us:=p.cells) ah_ t_ rfl (λv _ h=>((Con.mem_iff (.mk k nm lo hi ad cap ps) v).1 h.1).1) (Con.cells_len _) (w_ Con.cells_len B)) rfl (x_ aF_ rfl λL=>fk_ 0 t_ rfl rfl rfl rfl (Zz 3 ?_));refine e_ (dw_ (cs:=[lFn bs bk]) ku_ rfl (λv _ h=>h.2.2.2.1) rfl) rfl (e_ (cR_ 0 ah_ t_ rfl rfl) rfl (ap_ (ih p zbM_ (Con.ok_part (c:=(.mk k nm lo hi ad cap ps)) y m) (Con.fine_part (c:=(.mk k nm lo hi ad cap ps)) X m) (Con.leftP.lefts frm (ps.take i) l) G hk.2 (by have:=Con.lefts_len frm ps i l;have:=Con.sz_at B;omega)) rfl rfl (@List.perm_append_comm _ [_,_] _) (λv _ h=>by exact⟨Con.mem_part (c:=(.mk k nm lo hi ad cap ps)) h.1 m,h.2⟩) rfl λx=>?_));obtain⟨H,A⟩:=x;refine A_ (@List.perm_append_comm _ _ [_,_]) (Zz 7 ?_);exact u_ ⟨(i+1,H),O,by rw[Con.lefts_step frm B];exact A⟩ zan_ zl (F:=[_]) (@List.perm_append_comm _ [_] _) zh
theorem kJ_ {kb bk bs:Nat} {frm:Int}:∀ (d:Nat) (c:Con),c.sz<=d->c.ok->c.fine->∀ (l:List Pc) (q:CS),CInv l q->l.length+2*c.sz<=100000->
    Tri prog 178 #[c.val,zp_ bk 0,zp_ bs 0] (fA_ kb frm q) [c.memF,bN_,kF bk kb,rcF bs bk] (λ_:{R:CS // CInv (c.rightP frm l) R}=>.tuple #[]) (λR=>fA_ kb frm R.1) (λ_=>[]):=by
  intro d
  induction d with
  | zero=>intro c h;have:=c.sz_pos;omega
  | succ d ih =>
    intro c Y y S l q Q hl;have F:=Con.fields S;have I:=F.le;have H:=F.mo;obtain⟨k,nm,lo,hi,ad,cap,ps⟩:=c;have N:=Con.ok_len y;have W:(Con.mk k nm lo hi ad cap ps).sz=1+Con.sz.szs ps:=by simp only[Con.sz]
    have U:=Con.szs_len ps;simp only[Con.parts,Con.cap,Con.kind]at N I H;refine i_ func178 rfl rfl ntmps178 rfl λV=>?_;refine Zz 2 ?_;refine P_ rfl rfl λA=>Zj 11 (λJ=>?_) λJ=>?_
    . refine Zj 6 (λB=>?_) λB=>?_
      . refine Zj 6 (λP=>?_) λP=>?_
        . refine Zz 6 ?_;exact co_ results178 ⟨q,(by rw[Con.rightP0 (c:=(.mk k nm lo hi ad cap ps)) zal_ zal_ zal_];exact Q)⟩ rfl (F:=[_]) (@List.perm_append_comm _ [_] _) zt
        . refine Zz 4 ?_;refine ak_ [(A,.cells (Con.cells (Con.mk k nm lo hi ad cap ps)).toArray 28 (0,0))] zk ?_;refine D_ 4 [0,1,3,4,5,6,7,8] zk (λ_ a b=>⟨Vw.sat.sub a,b⟩) (M_ rfl (dw_ (cs:=[zp_ kb 0]) ra_ rfl (λv _ h=>h.2.2.1) rfl) rfl (Zz 8 ?_));refine p_ 2 rfl zk (f_ (db_ (.mk k nm lo hi ad cap ps) y) rfl (.refl _) zf rfl λ_=>Zz 2 ?_);refine V_ (λ_ a b=>⟨Vw.sat.sub a,b⟩) (D_ 2 [9] zk (λ_ a b=>⟨Vw.sat.sub a,b⟩) (M_ rfl (C_ dO_ rfl rfl) rfl (bs_ (p_ 10 rfl zk (O_ J_ K_ aa_ rfl rfl rfl rfl rfl rfl λK=>Zz 2 ?_)))));refine V_ (λ_ a b=>⟨Vw.sat.sub a.tail,b⟩) (p_ 11 rfl zk (f_ (dP_ ⟨8,Con.atom (.mk k nm lo hi ad cap ps),[],[],nm,[],[],lo,hi,0⟩ frm l q Q zaa_) rfl (.cons _ (@List.perm_append_comm _ [_] _)) zt rfl λx=>?_));obtain⟨E,m⟩:=x;refine A_ (@List.perm_append_comm _ _ [_]) (Zz 2 ?_);refine V_ (λ_ a b=>⟨Vw.sat.sub a,b⟩) (Zz 2 ?_);exact co_ results178 ⟨E,(by rw[Con.rightP7 (c:=(.mk k nm lo hi ad cap ps)) zal_];exact m)⟩ rfl (F:=[_]) (@List.perm_append_comm _ [_] _) zt
      . rw[B]at I H;simp[nd,en_]at I H
        obtain⟨p,O⟩:=ycI_.1 (show ps.length=1 by omega);have C:ps[0]? = some p:=by rw[O];rfl
        have e:p∈ps:=yad_ C;refine Zz 5 ?_;refine ak_ [(A,.cells (Con.cells (Con.mk k nm lo hi ad cap ps)).toArray 28 (0,0))] zk ?_;refine D_ 5 [0,1,3,4,5,6,7,8] zk (λ_ a b=>⟨Vw.sat.sub a,b⟩) (M_ rfl (dw_ (cs:=[zp_ kb 0]) ra_ rfl (λv _ h=>h.2.2.1) rfl) rfl (Zz 5 ?_));refine M_ rfl (Z_ ai_ t_ rfl rfl (λv _ h=>aA_ (n:=5) Con.cells_len zae_ (((Con.mem_iff (.mk k nm lo hi ad cap ps) v).1 h.1).1) C) zaa_ zah_) rfl ?_;refine M_ rfl (am_ (ad:=ad) (us:=p.cells) ah_ t_ rfl (λv _ h=>((Con.mem_iff (.mk k nm lo hi ad cap ps) v).1 h.1).1) (Con.cells_len _) (w_ Con.cells_len C)) rfl (bs_ (p_ 2 rfl zk (f_ (db_ (.mk k nm lo hi ad cap ps) y) rfl (.refl _) zf rfl λ_=>Zz 2 ?_)));refine V_ (λ_ a b=>⟨Vw.sat.sub a,b⟩) (p_ 9 rfl zk (f_ (db_ p (Con.ok_part (c:=(.mk k nm lo hi ad cap ps)) y e)) rfl (.refl _) (λv _ h=>⟨Con.mem_part (c:=(.mk k nm lo hi ad cap ps)) h.1 e,h.2.1,trivial⟩) rfl λ_=>Zz 2 ?_));refine V_ (λ_ a b=>⟨Vw.sat.sub a,b⟩) (D_ 2 [10] zk (λ_ a b=>⟨Vw.sat.sub a,b⟩) (M_ rfl (C_ dO_ rfl rfl) rfl (bs_ (p_ 11 rfl zk (O_ J_ K_ aa_ rfl rfl rfl rfl rfl rfl λK=>Zz 2 ?_)))));refine V_ (λ_ a b=>⟨Vw.sat.sub a.tail,b⟩) (p_ 12 rfl zk (f_ (dP_ ⟨3,Con.atom (.mk k nm lo hi ad cap ps),[],p.atom,nm,[],[],0,0,0⟩ frm l q Q zaa_) rfl (.cons _ (@List.perm_append_comm _ [_] _)) zt rfl λx=>?_));obtain⟨E,m⟩:=x;refine A_ (@List.perm_append_comm _ _ [_]) (Zz 2 ?_);refine V_ (λ_ a b=>⟨Vw.sat.sub a,b⟩) (Zz 2 ?_);refine ak_ [(A,.cells (Con.cells (Con.mk k nm lo hi ad cap ps)).toArray 28 (0,0))] zk ?_;refine D_ 1 [0,1,2,3,4] zk (λ_ a b=>⟨Vw.sat.sub a,b⟩) (M_ rfl (dw_ (cs:=[rFn bs bk]) ku_ rfl (λv _ h=>h.2.2.2.1) rfl) rfl (Zz 2 ?_));refine M_ rfl (Z_ ai_ t_ rfl rfl (λv _ h=>aA_ (n:=5) Con.cells_len zae_ (((Con.mem_iff (.mk k nm lo hi ad cap ps) v).1 h.1).1) C) zaa_ zah_) rfl ?_;refine M_ rfl (am_ (ad:=ad) (us:=p.cells) ah_ t_ rfl (λv _ h=>((Con.mem_iff (.mk k nm lo hi ad cap ps) v).1 h.1).1) (Con.cells_len _) (w_ Con.cells_len C)) rfl (bs_ (p_ 5 rfl zk (ap_ (ih p zbN_ (Con.ok_part (c:=(.mk k nm lo hi ad cap ps)) y e) (Con.fine_part (c:=(.mk k nm lo hi ad cap ps)) S e) (ins frm l ⟨3,Con.atom (.mk k nm lo hi ad cap ps),[],p.atom,nm,[],[],0,0,0⟩) E m (by have:=cj_ frm l ⟨3,Con.atom (.mk k nm lo hi ad cap ps),[],p.atom,nm,[],[],0,0,0⟩;have:=Con.sz_at C;omega)) rfl rfl (@List.perm_append_comm _ [_] _) (λv _ h=>by exact⟨Con.mem_part (c:=(.mk k nm lo hi ad cap ps)) h.1 e,h.2⟩) rfl λx=>?_)));obtain⟨L,G⟩:=x;refine A_ (@List.perm_append_comm _ _ [_]) (Zz 2 ?_);refine V_ (λ_ a b=>⟨Vw.sat.sub a,b⟩) (Zz 2 ?_);exact co_ results178 ⟨L,(by rw[Con.rightP6 (c:=(.mk k nm lo hi ad cap ps)) (p:=p) zal_ O];exact G)⟩ rfl (F:=[_]) (@List.perm_append_comm _ [_] _) zt
    . rw[J]at I H;simp[nd,en_]at I H
      refine Zz 13 ?_;refine bx_ [(1,zp_ bk 0),(2,zp_ bs 0),(3,zp_ A 0),(11,.slice ad ps.length cap),(12,iv_ ps.length),(13,iv_ ((0:Nat):Int))] zl ?_;refine bV_ (ι:={x:Nat×CS // x.1<=ps.length/\CInv (Con.rightP.rights frm (Con.atom (.mk k nm lo hi ad cap ps)) (ps.take x.1) l) x.2}) (λx=>[(1,zp_ bk 0),(2,zp_ bs 0),(3,zp_ A 0),(11,.slice ad ps.length cap),(12,iv_ ps.length),(13,iv_ x.1.1)]) (λx=>_::fA_ kb frm x.1.2) (λ_=>_) (λx=>ps.length - x.1.1) ⟨(0,q),by simp,by simpa [Con.rightP.rights] using Q⟩ ?_;rintro ⟨⟨i,E⟩,hk⟩;dsimp only at hk;refine bx_ [(1,zp_ bk 0),(2,zp_ bs 0),(3,zp_ A 0),(11,.slice ad ps.length cap),(12,iv_ ps.length),(13,iv_ i)] zl ?_;refine Zj 2 (λB=>?_) λB=>?_
      . obtain rfl:i=ps.length:=by omega
        rw[ycr_]at hk;refine Zz 6 ?_;exact co_ results178 ⟨E,(by rw[Con.rightP5 (c:=(.mk k nm lo hi ad cap ps)) zal_];exact hk.2)⟩ rfl (F:=[_]) (@List.perm_append_comm _ [_] _) zt
      . have M:i<ps.length:=by omega
        obtain⟨p,C⟩:∃ p,ps[i]? = some p:=⟨_,yaa_ M⟩;have e:p∈ps:=yad_ C;refine Zz 10 ?_;refine e_ (Z_ ai_ t_ rfl rfl (λv _ h=>aA_ (n:=5) Con.cells_len zae_ (((Con.mem_iff (.mk k nm lo hi ad cap ps) v).1 h.1).1) C) zaa_ zah_) rfl ?_;refine e_ (am_ (ad:=ad) (us:=p.cells) ah_ t_ rfl (λv _ h=>((Con.mem_iff (.mk k nm lo hi ad cap ps) v).1 h.1).1) (Con.cells_len _) (w_ Con.cells_len C)) rfl (x_ aF_ rfl λK=>fk_ 0 t_ rfl rfl rfl rfl (Zz 3 ?_));refine ak_ [(K,.cells p.cells.toArray 28 (0,0)),(A,.cells (Con.cells (Con.mk k nm lo hi ad cap ps)).toArray 28 (0,0))] zk ?_;refine D_ 5 [0,1,3] zk (λ_ a b=>⟨Vw.sat.sub a,b⟩) (M_ rfl (dw_ (cs:=[zp_ kb 0]) ra_ rfl (λv _ h=>h.2.2.1) rfl) rfl (Zz 1 ?_));refine M_ rfl (cR_ 0 ah_ t_ rfl rfl) rfl (bs_ (p_ 2 rfl zk (f_ (db_ (.mk k nm lo hi ad cap ps) y) rfl (.refl _) zf rfl λ_=>Zz 2 ?_)));refine V_ (λ_ a b=>⟨Vw.sat.sub a,b⟩) (p_ 4 rfl zk (f_ (db_ p (Con.ok_part (c:=(.mk k nm lo hi ad cap ps)) y e)) rfl (.refl _) (λv _ h=>⟨Con.mem_part (c:=(.mk k nm lo hi ad cap ps)) h.1 e,h.2.1,trivial⟩) rfl λ_=>Zz 2 ?_));refine V_ (λ_ a b=>⟨Vw.sat.sub a,b⟩) (D_ 2 [5] zk (λ_ a b=>⟨Vw.sat.sub a,b⟩) (M_ rfl (C_ dO_ rfl rfl) rfl (bs_ (p_ 6 rfl zk (O_ J_ K_ aa_ rfl rfl rfl rfl rfl rfl λX=>Zz 2 ?_)))));refine V_ (λ_ a b=>⟨Vw.sat.sub a.tail,b⟩) (p_ 7 rfl zk (f_ (dP_ ⟨1,Con.atom (.mk k nm lo hi ad cap ps),[],p.atom,[],[],[],0,0,0⟩ frm (Con.rightP.rights frm (Con.atom (.mk k nm lo hi ad cap ps)) (ps.take i) l) E hk.2 (by have:=Con.rights_len frm (Con.atom (.mk k nm lo hi ad cap ps)) ps i l;have:=Con.sz_at C;have:=p.sz_pos;omega)) rfl (.cons _ (@List.perm_append_comm _ [_,_] _)) zt rfl λx=>?_));obtain⟨L,m⟩:=x;refine A_ (@List.perm_append_comm _ _ [_,_]) (Zz 2 ?_);refine V_ (λ_ a b=>⟨Vw.sat.sub a,b⟩) (Zz 3 ?_);refine e_ (dw_ (cs:=[rFn bs bk]) ku_ rfl (λv _ h=>h.2.2.2.1) rfl) rfl (e_ (cR_ 0 ah_ t_ rfl rfl) rfl (ap_ (ih p zbN_ (Con.ok_part (c:=(.mk k nm lo hi ad cap ps)) y e) (Con.fine_part (c:=(.mk k nm lo hi ad cap ps)) S e) (ins frm (Con.rightP.rights frm (Con.atom (.mk k nm lo hi ad cap ps)) (ps.take i) l) ⟨1,Con.atom (.mk k nm lo hi ad cap ps),[],p.atom,[],[],[],0,0,0⟩) L m (by have:=Con.rights_len frm (Con.atom (.mk k nm lo hi ad cap ps)) ps i l;have:=Con.sz_at C;have:=cj_ frm (Con.rightP.rights frm (Con.atom (.mk k nm lo hi ad cap ps)) (ps.take i) l) ⟨1,(Con.atom (.mk k nm lo hi ad cap ps)),[],p.atom,[],[],[],0,0,0⟩;omega)) rfl rfl (@List.perm_append_comm _ [_,_] _) (λv _ h=>by exact⟨Con.mem_part (c:=(.mk k nm lo hi ad cap ps)) h.1 e,h.2⟩) rfl λx=>?_));obtain⟨T,G⟩:=x;refine A_ (@List.perm_append_comm _ _ [_,_]) (Zz 7 ?_);exact u_ ⟨(i+1,T),M,by rw[Con.rights_step frm _ C];exact G⟩ zan_ zl (F:=[_]) (@List.perm_append_comm _ [_] _) zh
end Go.Proofs.YtbffkokbdeppaaaGreatDoor
