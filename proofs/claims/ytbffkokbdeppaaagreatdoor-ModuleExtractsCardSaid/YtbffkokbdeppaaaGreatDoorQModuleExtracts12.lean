/-
  Lemmas for the law ModuleExtracts (no condition).
-/
import Derived.Test.YtbffkokbdeppaaaGreatDoorQModuleExtracts11
set_option linter.unusedVariables false
set_option linter.unusedSimpArgs false
set_option linter.unusedSectionVars false
set_option maxHeartbeats 1000000
namespace Go.Proofs.YtbffkokbdeppaaaGreatDoor
open Go Go.Sx Go.Proofs Tryz
attribute [local irreducible] Code.wp wpList wpAnyH
open Go.Vs
theorem eG_:KeyT prog 9 str:=Ah_ cW_
theorem xF_ (l:List Ax) (ad:Ao) (cap:Nat) (A:∀ x∈l,x.ok) (E:∀ x∈l,x.check=0) (F:l.length<=100000):Tri prog 129 #[.slice ad l.length cap] [] [bA_ ad l,cy_] (λ_:Unit=>i4_ 0) (λ_=>[]) (λ_=>[]):=by
 refine l_ func129 rfl rfl ntmps129 rfl λC=>?_;refine Zz 14 ?_;refine Y_ (ι:={y:Nat // y<=List.length l}) (λy=>[(2,i4_ 0),(6,.slice ad l.length cap),(7,i4_ (List.length l:Int)),(8,i4_ y.1)]) (λy=>([])) (λy=>[bA_ ad l,cy_]) (λy=>l.length - y.1) ⟨(0:Nat),by simp⟩ zl e_ zh ?_;rintro ⟨i,u⟩;dsimp only at u ⊢;refine Zi 2 (λo=>?_) λo=>?_
 .refine Zz 12 ?_
  exact W_ results129 () rfl e_ zt
 obtain⟨k,e,B,d⟩:=zge (show i<l.length by omega);refine Zz 12 ?_;refine K_ aQ_ rfl λG=>o_ 0 D_ rfl rfl rfl rfl rfl rfl (Zz 5 ?_)
 refine d_ (rH_ (A e d) (E e d)) rfl e_ (λv _ h=>by exact⟨(h.1.2 e d),h.2.1,trivial⟩) rfl λ_=>Zz 6 ?_
 refine c_ (aD_ (cP_ rfl rfl) (show _=Value.bool false from yag_ Value.bool zaj_)) rfl (Zz 10 ?_);exact w_ ⟨i+1,k⟩ zae_ zl e_ zh
theorem hk_ {G:Prop} (h:G:=by
 have d:Ax.selfs x=m:=by rw[hm,yac_ zaa_];rfl
 exact W_ results213 () (n_ rfl (by unfold Ax.exm;rw[k,d];rw[ybu_];simp only[yaJ_,ybj_,ybY_,yaY_,ybr_,yai_,ybZ_,o,ycY_,ydj_,true_iff,ybs_,ydk_,reduceCtorEq];omega)) e_ zt):G:=h
theorem AC_ (x:Ax) (i:Nat) (J:x.ok) (hi:i<x.roles.length):Tri prog 213 #[Ax.val x,i4_ i] [] [Ax.memF x] (λ_:Unit=>.bool (x.exm i)) (λ_=>[]) (λ_=>[]):=by
 refine l_ func213 rfl rfl ntmps213 rfl λL=>?_;have M:=J.cap;obtain⟨P,k⟩:∃ r,x.roles[i]? = some r:=⟨_,yaa_ hi⟩;refine Zz 2 ?_;refine Q_ rfl rfl λE=>Zz 6 ?_
 refine C_ 0 [0,1,2,3,4,5,6,7] zk zs (Zi 7 (λA=>?_) λA=>?_)
 .have o:P=Ax.role x:=by simpa using A
  refine Zz 29 ?_;refine Y_ (ι:={y:Nat×Nat // y.1<=List.length x.roles/\y.2=List.countP (λr=>decide (r=x.role)) (x.roles.take y.1)}) (λy=>[(1,i4_ i),(2,zp_ E 0),(4,.bool false),(5,i4_ (List.length x.roles:Int)),(6,i4_ y.1.2),(21,.slice x.ad x.roles.length x.cap),(22,i4_ (List.length x.roles:Int)),(23,i4_ y.1.1)]) (λy=>((E,.cells (Ax.cells x).toArray 30 (0,0))::[])) (λy=>[Ax.memF x]) (λy=>x.roles.length - y.1.1) ⟨((0:Nat),(0:Nat)),by simp,zak_⟩ zl f_ zh ?_;rintro ⟨⟨j,m⟩,F,hm⟩;dsimp only at F hm ⊢;refine Zi 2 (λG=>?_) λG=>?_
  .refine Zi 9 (λe=>?_) λe=>?_
   .refine Zi 14 (λv=>?_) λv=>?_
    .refine Zz 11 ?_
     exact hk_
    refine Zz 5 ?_;refine A_ (al_ rfl rfl) rfl λK u=>Zz 7 ?_
    have d:Ax.selfs x=m:=by rw[hm,yac_ zaa_];rfl
    exact W_ results213 () (n_ rfl (by rw[<-u];unfold Ax.exm;rw[k,d];rw[ybu_];simp only[yaJ_,ybj_,ybY_,yaY_,ybr_,yai_,ybZ_,o,ycY_,ydj_,true_iff,ybs_,ydk_,reduceCtorEq];omega)) e_ zt
   refine Zi 4 (λv=>?_) λv=>?_
   .refine Zz 7 ?_
    refine c_ (aD_ (aT_ rfl rfl rfl (bB_ zaa_ zaa_)) (show _=i4_ ((List.length x.roles:Int) - 1) from rfl)) rfl (as_ rfl rfl ?_);refine Zi 0 (λu=>?_) λu=>?_
    .refine Zi 7 (λH=>?_) λH=>?_
     .refine Zz 11 ?_
      exact hk_
     refine Zz 5 ?_;refine A_ (al_ rfl rfl) rfl λK C=>Zz 7 ?_
     have d:Ax.selfs x=m:=by rw[hm,yac_ zaa_];rfl
     exact W_ results213 () (n_ rfl (by rw[<-C];unfold Ax.exm;rw[k,d];rw[ybu_];simp only[yaJ_,ybj_,ybY_,yaY_,ybr_,yai_,ybZ_,o,ycY_,ydj_,true_iff,ybs_,ydk_,reduceCtorEq];omega)) e_ zt
    refine Zz 15 ?_;exact hk_
   refine Zz 21 ?_;exact hk_
  have h:j<x.roles.length:=by omega
  obtain⟨O,B⟩:∃ I,x.roles[j]? = some I:=⟨_,yaa_ h⟩;refine Zi 20 (λe=>?_) λe=>?_
  .refine Zz 10 ?_
   exact w_ ⟨(j+1,m),h,zbh_⟩ zae_ zl f_ zh
  refine Zz 5 ?_;refine c_ (aD_ (aT_ rfl rfl rfl (bB_ zaE_ zaE_)) (show _=i4_ ((m+1:Nat):Int) from yag_ _ zaa_)) rfl ?_;refine Zz 8 ?_;exact w_ ⟨(j+1,(m+1)),h,zbh_⟩ zae_ zl f_ zh
 refine Zz 10 ?_;exact W_ results213 () (n_ rfl (by unfold Ax.exm;rw[k];simp[A])) e_ zt
theorem ni_ {G:Prop} (h:G:=by
 refine tI_ (k:=r) (s:=s) (e:=e) eG_ (.inr rfl) bH_ G h (by rw[u];simp) rfl rfl rfl an_ λx d=>?_;refine s_ fB_ (Zz 2 ?_);exact end0 results212 ⟨(ks,x),d,λk C=>.inl C⟩ rfl an_ zt):G:=h
theorem nj_ {G:Prop} (h:G:=by
 refine tI_ (k:=r) (s:=s) (e:=e) eG_ (.inr rfl) bH_ d v (by rw[u];simp) rfl rfl rfl an_ λA B=>?_;refine s_ fB_ (Zz 2 ?_);exact end0 results212 ⟨((ks++[(r,E)]),A),B,λk C=>by rw[yaz_,yaj_]at C;exact C.imp id zak_⟩ rfl an_ zt):G:=h
theorem xe_ (r s:Str) (e:Bool) (cb H:Nat) (ks:List (Str×Nat)) (S:List RSt) (Hx:Hp) (G:MmO H ks S Hx):Tri prog 212 #[str r,str s,.bool e,zp_ cb 0] Hx [cv_ cb (.cells #[.map (some H)] 186 (0,0))] (λ_:{y:List (Str×Nat)×Hp // MmO H y.1 (S++[(r,s,e)]) y.2/\∀ k∈y.1.map (·.1),k∈ks.map (·.1)\/k=r}=>.tuple #[]) (λy=>y.1.2) (λ_=>[]):=by
 refine l_ func212 rfl rfl ntmps212 rfl λK=>?_;refine Zz 5 ?_;refine c_ (fM_ (k:=r) eG_ dW_ eT_ G rfl rfl an_) rfl (A_ (yN_ underlying151 rfl rfl) rfl λI o=>Zz 2 ?_);cases I
 .replace o:=zdf o
  obtain⟨J,h⟩:=Option.ne_none_iff_exists'.1 o;refine Zz 6 ?_;refine c_ (aD_ (fM_ (k:=r) eG_ dW_ eT_ G rfl rfl an_) (yag_ ov_ h)) rfl (Zz 3 ?_);refine c_ (aD_ (fM_ (k:=r) eG_ dW_ eT_ G rfl rfl an_) (yag_ ov_ h)) rfl (Zz 1 ?_);refine A_ (kN_ (k:=r) (s:=s) eG_ bH_ hY_ G h rfl rfl an_) rfl λF u=>Zz 1 ?_
  cases F
  .refine Zz 3 ?_
   exact ni_
  refine Zz 2 ?_;exact ni_
 replace o:=zdt o;refine Zz 4 ?_;refine dm_ rfl λE=>zR_ (k:=r) eG_ (.inr rfl) dW_ G o rfl rfl rfl (E_ f_ an_) λx d=>s_ fB_ ?_
 have v:hE_ (ks++[(r,E)]) r=some E:=ze_ o;refine Zz 5 ?_;refine c_ (aD_ (fM_ (k:=r) eG_ dW_ eT_ d rfl rfl an_) (yag_ ov_ v)) rfl (Zz 3 ?_);refine c_ (aD_ (fM_ (k:=r) eG_ dW_ eT_ d rfl rfl an_) (yag_ ov_ v)) rfl (Zz 1 ?_);refine A_ (kN_ (k:=r) (s:=s) eG_ bH_ hY_ d v rfl rfl an_) rfl λF u=>Zz 1 ?_
 cases F
 .refine Zz 3 ?_
  exact nj_
 refine Zz 2 ?_;exact nj_
theorem BC_ (l:List Ax) (ad:Ao) (cap:Nat) (a4:∀ x∈l,x.ok) (hC:∀ x∈l,x.check=0) (hll:l.length<=100000):Tri prog 131 #[.slice ad l.length cap] [] [bA_ ad l] (λy:{y:Nat×List (Str×Nat)×Hp // MmO y.1 y.2.1 (bM_ l) y.2.2/\Frm y.2.1 (bM_ l)}=>.map (some y.1.1)) (λy=>y.1.2.2) (λ_=>[]):=by
 refine l_ func131 rfl rfl ntmps131 rfl λv_1=>?_;refine Zz 7 ?_;refine dm_ rfl λH=>K_ zeroValue186 rfl λI=>o_ 0 sizeOf186 rfl rfl rfl rfl rfl rfl (Zz 4 ?_)
 refine c_ (ft_ rfl rfl) rfl (Zz 12 ?_);refine jF_ 0 rfl ?_;refine Y_ (ι:={y:Nat×List (Str×Nat)×Hp // y.1<=List.length l/\MmO H y.2.1 (bM_ (l.take y.1)) y.2.2/\Frm y.2.1 (bM_ (l.take y.1))}) (λy=>[(2,.map none),(3,zp_ I 0),(4,.func (.func 212) #[] #[zp_ I 0]),(11,.slice ad l.length cap),(12,i4_ (List.length l:Int)),(13,i4_ y.1.1)]) (λy=>(y.1.2.2)) (λy=>[cv_ I (.cells #[.map (some H)] 186 (0,0)),bA_ ad l]) (λy=>l.length - y.1.1) ⟨((0:Nat),[],[(H,.map #[] 0)]),by simp,(by rw[ybI_];exact MmO.nil H 0),Frm.nil⟩ zl f_ zh ?_;rintro ⟨⟨i,L,J⟩,Y,E,C⟩;dsimp only at Y E C ⊢;refine Zi 2 (λa1=>?_) λa1=>?_
 .refine Zz 13 ?_
  have a3:List.take i l=l:=yac_ zaa_;rw[a3]at E C;exact W_ results131 ⟨(H,L,J),E,C⟩ rfl an_ zt
 obtain⟨G,d,B,k⟩:=zge (show i<l.length by omega);have Z:=Ax.good_of (hC d k);refine Zz 12 ?_;refine K_ aQ_ rfl λW=>o_ 0 D_ rfl rfl rfl rfl rfl rfl (Zi 11 (λA=>?_) λA=>?_)
 .refine Zi 6 (λo=>?_) λo=>?_
  .refine Zz 11 ?_
   exact w_ ⟨(i+1,L,J),G,(by rw[dj_ B,Ax.steps_no A o,yas_];exact E),(by rw[dj_ B,Ax.steps_no A o,yas_];exact C)⟩ zae_ zl ah_ zh
  have hch:=Z.chain o;refine Zz 13 ?_;refine Y_ (ι:={y:Nat×List (Str×Nat)×Hp // y.1<=List.length d.roles/\MmO H y.2.1 ((bM_ (l.take i))++Ax.chs d y.1) y.2.2/\Frm y.2.1 ((bM_ (l.take i))++Ax.chs d y.1)}) (λy=>[(2,.map none),(3,zp_ I 0),(4,.func (.func 212) #[] #[zp_ I 0]),(11,.slice ad l.length cap),(12,i4_ (List.length l:Int)),(13,i4_ i),(6,zp_ W 0),(39,.slice d.ad d.roles.length d.cap),(40,i4_ (List.length d.roles:Int)),(41,i4_ y.1.1)]) (λy=>((W,.cells (Ax.cells d).toArray 30 (0,0))::y.1.2.2)) (λy=>[cv_ I (.cells #[.map (some H)] 186 (0,0)),bA_ ad l]) (λy=>d.roles.length - y.1.1) ⟨((0:Nat),L,J),by simp,(by rw[Ax.chs,yas_];exact E),C.more⟩ zl zp zh ?_;rintro ⟨⟨j,T,R⟩,a0,P,O⟩;dsimp only at a0 P O ⊢;refine Zi 2 (λX=>?_) λX=>?_
  .refine Zz 11 ?_
   exact w_ ⟨(i+1,T,R),G,(by rw[dj_ B,Ax.steps_six o,show d.roles.length=j from zaa_];exact P),(by rw[dj_ B,Ax.steps_six o,show d.roles.length=j from zaa_];exact O)⟩ zae_ zl ah_ zh
  have u:j<d.roles.length:=by omega
  obtain⟨V,e⟩:∃ U,d.roles[j]? = some U:=⟨_,yaa_ u⟩;refine Zz 11 ?_;refine c_ (J_ m_ B_ rfl rfl (λv _ h=>az_ (n:=1) au_ zaj_ zci_ e) zaa_ zah_) rfl ?_;refine c_ (aS_ (ad:=d.ad) aJ_ rfl (λv _ h=>by exact (h.2.1.2 d k).2.2) (t_ au_ e 0 _ rfl)) rfl (Zz 8 ?_);refine U_ (AC_ d j (a4 d k) u) rfl e_ (λv _ h=>by exact⟨(h.2.1.2 d k),trivial⟩) rfl λa2 M=>c_ (aI_ rfl) rfl (Zz 2 ?_)
  cases a2
  .refine Zz 6 ?_
   refine bb_ (xe_ V d.role true I H T ((bM_ (l.take i))++Ax.chs d j) R P) rfl rfl ah_ zf rfl λ⟨⟨Q,S⟩,K,F⟩=>?_;dsimp only;dsimp only at K F;refine Zz 2 ?_;refine s_ (cg_ bS_) (Zz 5 ?_);exact w_ ⟨(j+1,Q,S),u,(by rw[Ax.chs_no e M,<-yak_];exact K),(by rw[Ax.chs_no e M,<-yak_];exact O.add F)⟩ zae_ zl zp zh
  refine Zz 8 ?_;exact w_ ⟨(j+1,T,R),u,(by rw[Ax.chs_yes e M];exact P),(by rw[Ax.chs_yes e M];exact O)⟩ zae_ zl zp zh
 have a5:=Z.one A;have u:0<d.roles.length:=by omega
 obtain⟨V,e⟩:∃ U,d.roles[0]? = some U:=⟨_,yaa_ u⟩;refine Zz 6 ?_;refine C_ 0 [0,1,2,3,4,5,6] zk zs (Zz 2 ?_);refine G_ rfl (J_ m_ B_ rfl rfl (λv _ h=>az_ (n:=1) au_ zaj_ zci_ e) zaa_ zah_) rfl ?_;refine G_ rfl (aS_ (ad:=d.ad) aJ_ rfl (λv _ h=>by exact (h.2.1.2 d k).2.2) (t_ au_ e 0 _ rfl)) rfl (Zi 2 (λo=>?_) λo=>?_)
 .refine Zz 11 ?_
  exact w_ ⟨(i+1,L,J),G,(by rw[dj_ B,Ax.steps_same A e o,yas_];exact E),(by rw[dj_ B,Ax.steps_same A e o,yas_];exact C)⟩ zae_ zl ah_ zh
 refine Zz 4 ?_;refine aW_ ((W,.cells (Ax.cells d).toArray 30 (0,0))::[]) zk ?_;refine C_ 1 [0,1,2,3,4,5,6] zk zs (Zz 3 ?_);refine G_ rfl (J_ m_ B_ rfl rfl (λv _ h=>az_ (n:=1) au_ zaj_ zci_ e) zaa_ zah_) rfl ?_;refine G_ rfl (aS_ (ad:=d.ad) aJ_ rfl (λv _ h=>by exact (h.2.1.2 d k).2.2) (t_ au_ e 0 _ rfl)) rfl (Zz 3 ?_);refine j_ 7 rfl zk (bb_ (xe_ V d.role false I H L (bM_ (l.take i)) J E) rfl rfl ah_ zf rfl λ⟨⟨Q,S⟩,K,F⟩=>?_);dsimp only;dsimp only at K F;refine Zz 5 ?_;refine s_ (cg_ bS_) (Zz 5 ?_);exact w_ ⟨(i+1,Q,S),G,(by rw[dj_ B,Ax.steps_five A e o];exact K),(by rw[dj_ B,Ax.steps_five A e o];exact C.add F)⟩ zae_ zl ah_ zh
def un_ (e:Nat×Bool):List Value:=[.int .i64 (e.1:Int),.bool e.2]
theorem pU_ (e:Nat×Bool):(un_ e).length=2:=rfl
theorem AD_ (e:Nat×Bool):(un_ e).all Value.oneCell'=true:=rfl
structure Grw where
  st:List (Nat×Bool)
  ad:Ao
  cap:Nat
def Grw.cells (x:Grw):List Value:=[.slice x.ad x.st.length x.cap]
theorem Grw.cells_len (x:Grw):x.cells.length=1:=rfl
theorem Grw.cells_one (x:Grw):x.cells.all Value.oneCell'=true:=rfl
def iF_ (X:List Grw):Fct where
  p v:=∀ y∈X,bW_ v y.ad (y.st.flatMap un_)
  mono v v' h hp y hy:=(O_ y.ad (y.st.flatMap un_)).mono v v' h (hp y hy)
theorem vB_ {X:List Grw} {y:Grw} {v:Vw} (h:(iF_ X).p v) (e:(O_ y.ad (y.st.flatMap un_)).p v):(iF_ (X++[y])).p v:=λz d=>by
 rcases yaj_.1 d with d|d
 .exact h z d
 rw[yal_]at d;subst d;exact e
def wyC (w:Wy):List Value:=[.int .i64 (w.role:Int),.bool w.strict,.int .i64 (w.before:Int),.int .i64 (w.many:Int)]
theorem oB_ (w:Wy):(wyC w).length=4:=rfl
theorem vV_ (w:Wy):(wyC w).all Value.oneCell'=true:=rfl
theorem jt_ {l:List Str} (hl:l.Nodup):SrS (cu_ l):=by
  have e:=lS_ l;have d:(cu_ l).Nodup:=(ycP_ _ _).nodup_iff.2 hl;unfold List.Nodup at d;refine ycB_ (fun {a b} hab=>?_) (e.and d)
  grind
theorem SrS.nd {l:List Str} (h:SrS l):l.Nodup:=h.imp λd e=>by grind
theorem bs_lo {R:List Str} (h:SrS R) {m:Nat} {x t:Str} (d:R[m]? = some x) (hl:x<t):∀ (a:Nat) y,a<m+1->R[a]? = some y->y<t:=by grind[ve_]
theorem bs_hi {R:List Str} (h:SrS R) {m:Nat} {x t:Str} (d:R[m]? = some x) (hl:¬ x<t):∀ (a:Nat) y,m<=a->R[a]? = some y->¬ y<t:=by grind[ve_]
theorem Di_ {R:List Str} (h:SrS R) {m:Nat} {t:Str} (d:∀ (a:Nat) y,a<m->R[a]? = some y->y<t) (k:∀ (a:Nat) y,m<=a->R[a]? = some y->¬ y<t) (e:R[m]? ≠ some t):t ∉ R:=by grind[List.getElem?_of_mem,ve_]
section
variable {P:Program} {N:Nf} {fr:Fr} {H:Hp} {Γ:List Fct} {ty:TypeId}
theorem yM_ {t k:TypeId} {x y:Operand} {A:IntKind} {m:Nat} (u:Fr.ev fr x=some (.int .u64 (m:Int))) (h:Fr.ev fr y=some (.int A 1)):Yld P N fr H Γ (.binOp .shr t x y k) ty (.int .u64 ((m / 2:Nat):Int)) :=
  λa v d _ _ _ _ _=>by
    have e:¬ ((1:Int)<0):=by omega
    have o:(m:Int).fdiv 2=(m:Int) / 2:=Int.fdiv_eq_ediv_of_nonneg _ zaj_;simp[execOp,d.ev u,d.ev h,eqGuard,binOp,Op.shift,e,IntKind.bits,o]
end
def GrR (S:List RSt) (R:List Str) (r:Str) (ss:List Str) (L:List (Nat×Bool)):Prop:=∀ j c,(j,c)∈L↔∃ s,s∈ss/\R[j]? = some s/\c=flg S r s
theorem GrR.nil {S:List RSt} {R:List Str} {r:Str}:GrR S R r [] []:=λj c=>by simp
theorem GrR.yes {S:List RSt} {R:List Str} {r s:Str} {ss:List Str} {L:List (Nat×Bool)} {n:Nat} (h:GrR S R r ss L) (e:R.Nodup) (d:R[n]? = some s):GrR S R r (ss++[s]) (L++[(n,flg S r s)]):=λj c=>by
  rw[yaj_,h,yal_,ycl_]
  grind[zT_]
theorem GrR.no {S:List RSt} {R:List Str} {r s:Str} {ss:List Str} {L:List (Nat×Bool)} (h:GrR S R r ss L) (d:s ∉ R):GrR S R r (ss++[s]) L:=λj c=>by
  rw[h]
  grind
structure GrI (S:List RSt) (R:List Str) (X:List Grw) (i:Nat):Prop where
  len:X.length=i
  row:∀ (k:Nat) (r:Str) (y:Grw),R[k]? = some r->X[k]? = some y->GrR S R r (cu_ (ik S r)) y.st
  short:∀ y∈X,y.st.length<=S.length
theorem GrI.nil {S:List RSt} {R:List Str}:GrI S R [] 0:=⟨rfl,λk r y _ h=>by simp at h,by simp⟩
theorem GrI.snoc {S:List RSt} {R:List Str} {X:List Grw} {i:Nat} {r:Str} {y:Grw} (h:GrI S R X i) (v:R[i]? = some r) (u:GrR S R r (cu_ (ik S r)) y.st) (e:y.st.length<=S.length):GrI S R (X++[y]) (i+1):=by
 refine⟨by grind[len],λk q z o d=>?_,λz d=>by rcases yaj_.1 d with d|d;exact h.short z d;grind⟩;rcases Nat.lt_or_ge k X.length with g|g
 .rw[ybw_ g]at d;exact h.row k q z o d
 grind[len]
theorem GrI.done {S:List RSt} {ks:List (Str×Nat)} {X:List Grw} (o:Frm ks S) (u:∀ z∈S,z.1∈ks.map (·.1)) (k:(ks.map (·.1)).Nodup) (h:GrI S (cu_ (ks.map (·.1))) X (cu_ (ks.map (·.1))).length):GrO S (cu_ (ks.map (·.1))) (X.map Grw.st):=by
 refine⟨by grind[len],SrS.nd (jt_ k),λr=>?_,λi r l e hl j c=>?_⟩
 .rw[ybN_]
  constructor
  .exact o r
  grind
 rw[yaD_,ycA_]at hl;obtain⟨y,d,rfl⟩:=hl;rw[h.row i r y e d j c]
 grind[List.mem_mergeSort,st_]
theorem Bx_:iJ_ prog 252 [(0,1),(1,1)] [i4_ 0,.bool false]:=⟨_,zeroValue252,runUnderlying252,λw=>by simp[af_,bD_]⟩
theorem rT_:iJ_ prog 256 [(0,1),(1,1),(2,1),(3,1)] [i4_ 0,.bool false,i4_ 0,i4_ 0]:=⟨_,qq_,runUnderlying256,λw=>by simp[af_,bD_]⟩
theorem CD_:Elt prog 248 252 2 16:=gn_ underlying248 (z:=.agg #[i4_ 0,.bool false]) zam_ rfl zaj_
theorem CC_:Elt prog 182 248 1 24:=gn_ underlying182 (z:=.slice none 0 0) zam_ rfl zaj_
theorem AF_:Elt prog 257 256 4 32:=gn_ underlying257 (z:=.agg #[i4_ 0,.bool false,i4_ 0,i4_ 0]) zam_ rfl zaj_
theorem Ap_ (s:Str):Fn0 prog 285 #[str s] (.bool false):=by
  refine l_ func285 rfl rfl ntmps285 rfl λd=>?_;refine Zz 9 ?_;refine c_ (aD_ (cY_ rfl rfl) (show _=Value.bool false from yag_ Value.bool zak_)) rfl (Zz 4 ?_);exact W_ results285 () rfl e_ zt
theorem yC_ (x y:Str):Fn0 prog 264 #[str x,str y] (.bool (decide (x<y))):=by
  refine l_ func264 rfl rfl ntmps264 rfl λe=>?_;refine Zz 8 ?_;refine d_ (sm_ x) rfl e_ zt rfl λ_=>Zz 11 ?_
  refine A_ (gd_ rfl rfl) rfl λh d=>Zz 5 ?_
  exact W_ results264 () (n_ rfl (by rw[<-d])) e_ zt
theorem binS_c (R:List Str) (ad:Ao) (cap:Nat) (t:Str) (E:SrS R) (hl:R.length<=100000000):Tri prog 211 #[.slice ad R.length cap,str t] [] [O_ ad (R.flatMap V_)] (λy:{y:Nat×Bool // (y.2=true->R[y.1]? = some t)/\(y.2=false->t ∉ R)}=>.tuple #[i4_ y.1.1,.bool y.1.2]) (λ_=>[]) (λ_=>[]):=by
 refine l_ func211 rfl rfl ntmps211 rfl λL=>?_;refine Zz 22 ?_;refine Y_ (ι:={y:Nat×Nat // y.1<=y.2/\y.2<=List.length R/\(∀ (a:Nat) (z:Str),a<y.1->R[a]? = some z->z<t)/\(∀ (a:Nat) (z:Str),y.2<=a->R[a]? = some z->¬ z<t)}) (λy=>[(0,.slice ad R.length cap),(1,str t),(6,i4_ (List.length R:Int)),(7,i4_ y.1.1),(8,i4_ y.1.2)]) (λy=>([])) (λy=>[O_ ad (R.flatMap V_)]) (λy=>y.1.2 - y.1.1) ⟨((0:Nat),R.length),zaa_,zaa_,(λa y h=>absurd h zae_),(λa y h e=>by have:=(yaf_.1 e).1;dsimp only at h;omega)⟩ zl e_ zh ?_;rintro ⟨⟨lo,hi⟩,I,J,C,hB⟩;dsimp only at I J C hB ⊢;refine Zi 5 (λB=>?_) λB=>?_
 .obtain rfl:lo=hi:=by omega
  refine Zi 10 (λd=>?_) λd=>?_
  .refine Zz 24 ?_
   exact gN_ results211 ⟨(lo,false),λq=>zbX_,λ_=>Di_ E C hB (λq=>by have:=(yaf_.1 q).1;omega)⟩ rfl rfl rfl e_ zt
  have v:lo<R.length:=by omega
  obtain⟨M,u⟩:∃ o,R[lo]? = some o:=⟨_,yaa_ v⟩;refine Zi 12 (λk=>?_) λk=>?_
  .refine Zz 11 ?_
   refine d_ (Ap_ M) rfl e_ zt rfl λ_=>Zz 14 ?_
   exact gN_ results211 ⟨(lo,false),λq=>zbX_,λ_=>Di_ E C hB (λq=>by rw[u]at q;exact k (ycf_ q))⟩ rfl rfl rfl e_ zt
  refine Zz 19 ?_;exact gN_ results211 ⟨(lo,true),λ_=>by rw[u,k],λq=>by cases q⟩ rfl rfl rfl e_ zt
 have G:(lo+hi) / 2<R.length:=by omega
 have A:((lo+hi) / 2)<R.length:=G;obtain⟨K,x⟩:∃ o,R[((lo+hi) / 2)]? = some o:=⟨_,yaa_ A⟩;refine Zz 10 ?_;refine c_ (aD_ (aT_ rfl rfl rfl (bB_ zaa_ zaa_)) (show _=i4_ ((lo+hi:Nat):Int) from yag_ _ zaa_)) rfl (c_ (vU_ F_ underlying231 rfl (wrapU zaa_ zaa_)) rfl (c_ (yM_ rfl rfl) rfl (c_ (vU_ underlying231 F_ rfl (bB_ zaa_ zaa_)) rfl (Zz 10 ?_))));refine U_ (yC_ K t) rfl e_ zt rfl λF d=>Zz 2 ?_
 cases F
 .replace d:=zdf d
  refine Zz 6 ?_;exact w_ ⟨(lo,((lo+hi) / 2)),zaa_,zaa_,C,bs_hi E x d⟩ zae_ zl e_ zh
 replace d:=zdt d;refine Zz 3 ?_;refine c_ (aD_ (aT_ rfl rfl rfl (bB_ zaa_ zaa_)) (show _=i4_ (((lo+hi) / 2+1:Nat):Int) from yag_ _ zaa_)) rfl (Zz 3 ?_);exact w_ ⟨(((lo+hi) / 2+1),hi),zaa_,J,bs_lo E x d,hB⟩ zae_ zl e_ zh
end Go.Proofs.YtbffkokbdeppaaaGreatDoor
namespace Go.Proofs.YtbffkokbdeppaaaGreatDoor
open Go Go.Sx Go.Proofs Tryz
attribute [local irreducible] Code.wp wpList wpAnyH
open Go.Vs
theorem zf_ {ks:List (Str×Nat)} {k:Str} (h:k∈ks.map (·.1)):∃ b,hE_ ks k=some b:=by
  cases e:hE_ ks k<;>grind[kc_]
theorem vA_ {S:List RSt} {r:Str}:(ik S r).length<=S.length:=by
  have h:(ik S r) ⊆ S.map (·.2.1):=λs d=>by
    grind[st_]
  have:=(Df_ S r).length_le_of_subset h
  grind
theorem vp_ (o:Nat) (ks:List (Str×Nat)) (S:List RSt) (Hx:Hp) (hT0:MmO o ks S Hx) (hF:Frm ks S) (hkl:ks.length<=100000) (hSl:S.length<=100000):Tri prog 130 #[.map (some o)] Hx [] (λy:{y:List Grw×Ao×Nat×Ao×Nat // GrO S (cu_ (List.map (λp:Str×Nat=>p.1) ks)) (y.1.map Grw.st)/\(∀ z∈y.1,z.st.length<=S.length)/\y.1.length=List.length ks/\(List.length (cu_ (List.map (λp:Str×Nat=>p.1) ks))<=y.2.2.1/\y.2.2.1<=maxLen/\(y.2.1=none->y.2.2.1=0))/\(List.length y.1<=y.2.2.2.2/\y.2.2.2.2<=maxLen/\(y.2.2.2.1=none->y.2.2.2.2=0))}=>.agg #[.slice y.1.2.1 (List.length (cu_ (List.map (λp:Str×Nat=>p.1) ks))) y.1.2.2.1,.slice y.1.2.2.2.1 y.1.1.length y.1.2.2.2.2]) (λ_=>[]) (λy=>[O_ y.1.2.1 (List.flatMap V_ (cu_ (List.map (λp:Str×Nat=>p.1) ks))),O_ y.1.2.2.2.1 (y.1.1.flatMap Grw.cells),iF_ y.1.1]):=by
 obtain⟨es,T,E,rfl,hE⟩:=hT0;refine l_ func130 rfl rfl ntmps130 rfl λv_1=>?_;refine Zz 2 ?_;refine K_ zeroValue184 rfl λB=>Zz 5 ?_
 refine d_ (Ci_ o) rfl e_ zt rfl λbx=>?_;refine d_ (gF_ 284 [zp_ bx 0] [(bx,.cells #[.map (some o)] 186 (0,0)),(o,.map es T)] (List.map (λp:Str×Nat=>p.1) ks) hE.nd zaz_ (Cj_ o bx T es (List.map (λp:Str×Nat=>p.1) ks) ⟨hE.keys,hE.nd⟩ hE.born zaz_)) rfl zp zt rfl λ⟨⟨rad,rcap⟩,a1,a3,a2⟩=>?_;dsimp only;have hrl:List.length (cu_ (List.map (λp:Str×Nat=>p.1) ks))=ks.length:=by rw[ybm_,yaB_]
 refine Zz 1 ?_;refine o_ 2 bo_ rfl rfl rfl rfl rfl rfl (Zz 12 ?_);refine s_ (E_ f_ (E_ (g_ f_) (E_ f_ an_))) ?_;try simp only[yas_]
 have hT:MmO o ks S ((o,.map es T)::List.map (hg_ E) ks):=⟨es,T,E,rfl,hE⟩;refine s_ (H':=((bx,.cells #[.map (some o)] 186 (0,0))::((B,.cells #[.slice rad (List.length (cu_ (List.map (λp:Str×Nat=>p.1) ks))) rcap,.slice none 0 0] 184 (0,0))::(((o,.map es T)::List.map (hg_ E) ks)++([]:Hp))))) (List.Perm.cons _ (List.Perm.cons _ (ycN_ (yas_ _).symm))) ?_;refine Y_ (ι:={y:Nat×List Grw×Value×Hp // y.1<=List.length (cu_ (List.map (λp:Str×Nat=>p.1) ks))/\GrI S (cu_ (List.map (λp:Str×Nat=>p.1) ks)) y.2.1 y.1/\zR 248 1 Grw.cells y.2.2.1 y.2.1 y.2.2.2}) (λy=>[(0,.map (some o)),(2,zp_ B 0),(15,.slice rad (List.length (cu_ (List.map (λp:Str×Nat=>p.1) ks))) rcap),(16,i4_ (List.length (cu_ (List.map (λp:Str×Nat=>p.1) ks)):Int)),(17,i4_ y.1.1)]) (λy=>((B,.cells #[.slice rad (List.length (cu_ (List.map (λp:Str×Nat=>p.1) ks))) rcap,y.1.2.2.1] 184 (0,0))::(((o,.map es T)::List.map (hg_ E) ks)++y.1.2.2.2))) (λy=>[O_ rad (List.flatMap V_ (cu_ (List.map (λp:Str×Nat=>p.1) ks))),iF_ y.1.2.1]) (λy=>List.length (cu_ (List.map (λp:Str×Nat=>p.1) ks)) - y.1.1) ⟨((0:Nat),([]:List Grw),(.slice none 0 0),([]:Hp)),by simp,GrI.nil,(av_.nil _ _)⟩ zl zp (λv _ h=>by exact⟨h.1,(show (iF_ ([]:List Grw)).p v from λz hz=>by simp at hz),trivial⟩) ?_;rintro ⟨⟨i,X,U,F⟩,c3,M,K⟩;dsimp only at c3 M K ⊢;refine Zi 2 (λJ=>?_) λJ=>?_
 .refine Zz 7 ?_
  refine I_ K (g_ bS_) λb1 W c2 a6 a5 a8=>?_;subst c2;refine Zz 2 ?_;refine o_ 0 sizeOf184 rfl rfl rfl rfl rfl rfl (Zz 3 ?_);exact cs_ ⟨(X,rad,rcap,b1,W),(by rw[show i=List.length (cu_ (List.map (λp:Str×Nat=>p.1) ks)) from by omega]at M;exact GrI.done hF hE.all hE.nd M),M.short,M.len.trans zaa_,⟨a1,a3,a2⟩,⟨a6,a5,a8⟩⟩ (λaa v h_1 h_2=>db_ (us:=[.slice rad (List.length (cu_ (List.map (λp:Str×Nat=>p.1) ks))) rcap,.slice b1 X.length W]) 0 results130 isAgg184 sizeOf184 rfl rfl rfl aa v h_1 h_2) e_ zf
 have I:i<List.length (cu_ (List.map (λp:Str×Nat=>p.1) ks)):=by omega
 obtain⟨d,Z⟩:∃ a0,(cu_ (List.map (λp:Str×Nat=>p.1) ks))[i]? = some a0:=⟨_,yaa_ I⟩;have a9:d∈(cu_ (List.map (λp:Str×Nat=>p.1) ks)):=yad_ Z;refine Zz 22 ?_;have hkm:d∈(List.map (λp:Str×Nat=>p.1) ks):=ybN_.1 a9;obtain⟨bk,O⟩:=zf_ hkm;refine Zz 3 ?_;refine c_ (aD_ (fM_ (k:=d) eG_ dW_ eT_ hT rfl rfl zp) (yag_ ov_ O)) rfl (d_ (mg_ bk) rfl e_ zt rfl λby_=>?_);obtain⟨b3,cb,Hr,P,Q,b0,_⟩:=hT.at O;refine s_ (E_ f_ (E_ f_ (bP_ bS_ an_))) ?_;try simp only[yas_]
 refine s_ (List.Perm.cons _ (List.Perm.cons _ (ybh_ F P))) (d_ (gF_ 193 [zp_ by_ 0] [(by_,.cells #[.map (some bk)] 151 (0,0)),(bk,.map b3 cb)] (ik S d) (Df_ S d) (by have:=vA_ (S:=S) (r:=d);omega) (mh_ bk by_ cb b3 (ik S d) ⟨Q.keys,Q.nd⟩ b0 (by have:=vA_ (S:=S) (r:=d);omega))) rfl (E_ f_ (g_ (ae_ f_))) zt rfl λ⟨⟨sad,b4⟩,hss_1,hss_2,hss_3⟩=>?_);dsimp only;have hsl:List.length (cu_ (ik S d))=List.length (ik S d):=ybm_ _;have hil:=vA_ (S:=S) (r:=d);refine Zz 5 ?_;refine s_ (E_ f_ (E_ (g_ f_) (bP_ (g_ ag_) (E_ f_ an_)))) ?_;try simp only[yas_]
 refine s_ (List.Perm.cons _ (List.Perm.cons _ (ybh_ F P.symm))) (s_ (H':=((by_,.cells #[.map (some bk)] 151 (0,0))::((B,.cells #[.slice rad (List.length (cu_ (List.map (λp:Str×Nat=>p.1) ks))) rcap,U] 184 (0,0))::(F++(((o,.map es T)::List.map (hg_ E) ks)++([]:Hp)))))) (List.Perm.cons _ (List.Perm.cons _ (ybh_ F (ycN_ (yas_ _).symm)))) ?_);refine Y_ (ι:={y:Nat×List (Nat×Bool)×Value×Hp // y.1<=List.length (cu_ (ik S d))/\GrR S (cu_ (List.map (λp:Str×Nat=>p.1) ks)) d (List.take y.1 (cu_ (ik S d))) y.2.1/\y.2.1.length<=y.1/\zR 252 2 un_ y.2.2.1 y.2.1 y.2.2.2}) (λy=>[(0,.map (some o)),(2,zp_ B 0),(15,.slice rad (List.length (cu_ (List.map (λp:Str×Nat=>p.1) ks))) rcap),(16,i4_ (List.length (cu_ (List.map (λp:Str×Nat=>p.1) ks)):Int)),(17,i4_ i),(4,str d),(5,y.1.2.2.1),(25,.slice sad (cu_ (ik S d)).length b4),(26,i4_ (List.length (cu_ (ik S d)):Int)),(27,i4_ y.1.1)]) (λy=>((B,.cells #[.slice rad (List.length (cu_ (List.map (λp:Str×Nat=>p.1) ks))) rcap,U] 184 (0,0))::(F++(((o,.map es T)::List.map (hg_ E) ks)++y.1.2.2.2)))) (λy=>[O_ sad (List.flatMap V_ (cu_ (ik S d))),O_ rad (List.flatMap V_ (cu_ (List.map (λp:Str×Nat=>p.1) ks))),iF_ X]) (λy=>List.length (cu_ (ik S d)) - y.1.1) ⟨((0:Nat),([]:List (Nat×Bool)),(.slice none 0 0),([]:Hp)),by simp,(by rw[ybI_];exact GrR.nil),zak_,(av_.nil _ _)⟩ zl zp zh ?_;rintro ⟨⟨j,L,a7,b2⟩,b5,hL,hLl,e⟩;dsimp only at b5 hL hLl e ⊢;refine Zi 2 (λG=>?_) λG=>?_
 .refine Zz 6 ?_
  refine I_ e (g_ (ae_ bS_)) λlad lcap b6 hclad hmlad hzlad=>?_;subst b6;refine Zz 4 ?_;refine p_ runUnderlying182 sizeOf248 zeroValue248 rfl rfl rfl rfl rfl rfl λb_2=>?_;refine am_ (news:=List.flatMap Grw.cells [(Grw.mk L lad lcap)]) CC_ K rfl rfl (g_ (g_ ag_)) rfl (aO_ 0 rfl) (λu hu=>aF_ Grw.cells_one hu) zbq_ zby_ rfl λC H J=>?_;have A:=zsa J;refine Zz 1 ?_;refine s_ (aL_ (ae_ f_) (cg_ (ae_ f_))) (dy_ 1 A sizeOf182 rfl rfl rfl rfl (Zz 7 ?_));exact w_ ⟨(i+1,(X++[(Grw.mk L lad lcap)]),C,H),I,M.snoc Z (by have q:=hL;rw[yac_ zaa_]at q;exact q) zae_,A⟩ zae_ zl (E_ (g_ f_) (bP_ (g_ bS_) ah_)) (λv _ h=>by exact⟨h.2.2.1,vB_ h.2.2.2.1 h.1,trivial⟩)
 have x:j<List.length (cu_ (ik S d)):=by omega
 obtain⟨b8,V⟩:∃ a0,(cu_ (ik S d))[j]? = some a0:=⟨_,yaa_ x⟩;refine Zz 20 ?_;refine d_ (binS_c (cu_ (List.map (λp:Str×Nat=>p.1) ks)) rad rcap b8 (jt_ hE.nd) zaa_) rfl e_ zf rfl λ⟨⟨b7,c0⟩,Y,R⟩=>?_;dsimp only;dsimp only at Y R;refine Zz 12 ?_;cases c0
 .refine Zz 8 ?_
  exact w_ ⟨(j+1,L,a7,b2),x,(by rw[take_snoc V];exact hL.no (R rfl)),zae_,e⟩ zae_ zl zp zh
 refine Zz 6 ?_;refine c_ (aD_ (fM_ (k:=d) eG_ dW_ eT_ hT rfl rfl zp) (yag_ ov_ O)) rfl (Zz 1 ?_);refine A_ (kN_ (k:=d) (s:=b8) eG_ bH_ hY_ hT O rfl rfl zp) rfl λc1 b9=>c_ (x_ Bx_ rfl rfl) rfl (p_ runUnderlying248 sizeOf252 zeroValue252 rfl rfl rfl rfl rfl rfl λb_2=>?_)
 refine am_ (news:=List.flatMap un_ [(Prod.mk b7 c1)]) CD_ e rfl rfl (g_ (g_ (ae_ bS_))) rfl (aO_ 0 rfl) (λu hu=>aF_ AD_ hu) zbq_ zby_ rfl λC H G=>?_;have A:=zsa G;refine Zz 3 ?_;refine s_ (aL_ (ae_ f_) (cg_ (ae_ f_))) (Zz 5 ?_);exact w_ ⟨(j+1,(L++[(Prod.mk b7 c1)]),C,H),x,(by rw[take_snoc V,<-b9];exact hL.yes (SrS.nd (jt_ hE.nd)) (Y rfl)),zbR_,A⟩ zae_ zl zp zh
theorem nh_ {G:Prop} (h:G:=by
 refine s_ fB_ (Zz 14 ?_);exact w_ ⟨(k+1,(List.set (List.set M k d) (Int.toNat ((List.length L:Int) - 1 - (k:Int))) h),u,A),(by have q:=U.step E (show M[List.length L - 1 - k]? = some d from by rw[show L.length - 1 - k=(Int.toNat ((List.length L:Int) - 1 - (k:Int))) by omega];exact v) o;rw[show L.length - 1 - k=(Int.toNat ((List.length L:Int) - 1 - (k:Int))) by omega]at q;exact q),O,C⟩ zae_ ⟨rfl,rfl,(aV_ rfl zae_),trivial⟩ an_ zt):G:=h
theorem xH_ (L:List Int) (sv:Value) (Hr:Hp) (W:zR 3 1 cS_ sv L Hr) (hl:L.length<=1000000000):Tri prog 214 #[sv] Hr [] (λ_:{H:Hp // zR 3 1 cS_ sv L.reverse H}=>.tuple #[]) (λy=>y.1) (λ_=>[]):=by
 refine l_ func214 rfl rfl ntmps214 rfl λY=>?_;refine Zz 3 ?_;refine c_ (dF_ W aE_ rfl) rfl (Zz 6 ?_);refine bc_ [(0,sv),(2,i4_ 0),(3,i4_ ((List.length L:Int) - 1 - ((0:Nat):Int)))] ⟨rfl,rfl,(aV_ rfl zaa_),trivial⟩ ?_;refine Y_ (ι:={y:Nat×List Int×Value×Hp // RevI L y.2.1 y.1/\y.2.2.1=sv/\zR 3 1 cS_ y.2.2.1 y.2.1 y.2.2.2}) (λy=>[(0,y.1.2.2.1),(2,i4_ y.1.1),(3,i4_ ((List.length L:Int) - 1 - (y.1.1:Int)))]) (λy=>(y.1.2.2.2)) (λy=>[]) (λy=>L.length - y.1.1) ⟨((0:Nat),L,sv,Hr),RevI.zero L,rfl,W⟩ zl an_ zt ?_;rintro ⟨⟨k,M,u,V⟩,U,O,e⟩;dsimp only at U O e ⊢;refine Zi 5 (λB=>?_) λB=>?_
 .refine Zz 5 ?_
  have Z:=U.done B;subst Z;rw[O]at e;exact end0 results214 ⟨V,e⟩ rfl an_ zt
 have E:=B;have X:=U.len;have S:(Int.toNat ((List.length L:Int) - 1 - (k:Int)))<M.length:=by omega
 obtain⟨d,v⟩:∃ P,M[(Int.toNat ((List.length L:Int) - 1 - (k:Int)))]? = some P:=⟨_,yaa_ S⟩;have R:k<M.length:=by omega
 obtain⟨h,o⟩:∃ P,M[k]? = some P:=⟨_,yaa_ R⟩;refine Zz 7 ?_;refine aW_ ([]) zk ?_;refine C_ 6 [0,1,2,3,4,5,6,8,9,10] zk zs (Zz 6 ?_);refine G_ rfl (bJ_ e aE_ af_ rfl rfl zaa_ zaa_) rfl (Zz 2 ?_);refine G_ rfl (bJ_ e aE_ af_ rfl rfl zaa_ zaa_) rfl (bd_ ?_);refine bx_ 7 11 rfl rfl zk ?_ ?_
 .refine c_ (cH_ e an_ aU_ rfl (t_ er_ v 0 _ rfl)) rfl (Zz 3 ?_)
  refine j_ 11 rfl zk (c_ (cH_ e an_ aU_ rfl (t_ er_ o 0 _ rfl)) rfl (Zz 3 ?_));refine C_ 3 [12] zk zs (G_ rfl (bJ_ e aE_ af_ rfl rfl zaa_ zaa_) rfl (bd_ (j_ 13 rfl zk (eu_ (k:=(k:Int).toNat*1+0) e an_ af_ rfl rfl zaa_ rfl rfl λJ B=>?_))));have G:=(gZ_ cS_ 1 er_ M k 0 h d (i4_ d) o zaj_ rfl).trans (yag_ _ (rfl));have x:av_ 3 1 u (List.set M k d).length (List.flatMap cS_ (List.set M k d)) J:=by rw[<-G,show List.length (List.set M k d)=M.length from (yaZ_ ..)];exact B
  refine s_ fB_ (Zz 3 ?_);refine j_ 14 rfl zk ?_;have F:(List.set M k d)[(Int.toNat ((List.length L:Int) - 1 - (k:Int)))]? = some d:=by rw[ybW_ zaa_];exact v
  have Q:(Int.toNat ((List.length L:Int) - 1 - (k:Int)))<List.length (List.set M k d):=by rw[yaZ_];omega
  refine c_ (bJ_ x aE_ af_ rfl rfl zaa_ zaa_) rfl (Zz 3 ?_);refine j_ 15 rfl zk (eu_ (k:=((Int.toNat ((List.length L:Int) - 1 - (k:Int))):Int).toNat*1+0) x an_ af_ rfl rfl zaa_ rfl rfl λA K=>?_);have I:=(gZ_ cS_ 1 er_ (List.set M k d) (Int.toNat ((List.length L:Int) - 1 - (k:Int))) 0 d h (i4_ h) F zaj_ rfl).trans (yag_ _ (rfl));have C:av_ 3 1 u (List.length (List.set (List.set M k d) (Int.toNat ((List.length L:Int) - 1 - (k:Int))) h)) (List.flatMap cS_ (List.set (List.set M k d) (Int.toNat ((List.length L:Int) - 1 - (k:Int))) h)) A:=by rw[<-I,show List.length (List.set (List.set M k d) (Int.toNat ((List.length L:Int) - 1 - (k:Int))) h)=List.length (List.set M k d) from (yaZ_ ..)];exact K
  exact nh_
 refine c_ (cH_ e an_ aU_ rfl (t_ er_ o 0 _ rfl)) rfl (Zz 3 ?_);refine j_ 7 rfl zk (c_ (cH_ e an_ aU_ rfl (t_ er_ v 0 _ rfl)) rfl (Zz 3 ?_));refine C_ 3 [12] zk zs (G_ rfl (bJ_ e aE_ af_ rfl rfl zaa_ zaa_) rfl (bd_ (j_ 13 rfl zk (eu_ (k:=(k:Int).toNat*1+0) e an_ af_ rfl rfl zaa_ rfl rfl λJ K=>?_))));have G:=(gZ_ cS_ 1 er_ M k 0 h d (i4_ d) o zaj_ rfl).trans (yag_ _ (rfl));have x:av_ 3 1 u (List.set M k d).length (List.flatMap cS_ (List.set M k d)) J:=by rw[<-G,show List.length (List.set M k d)=M.length from (yaZ_ ..)];exact K
 refine s_ fB_ (Zz 3 ?_);refine j_ 14 rfl zk ?_;have F:(List.set M k d)[(Int.toNat ((List.length L:Int) - 1 - (k:Int)))]? = some d:=by rw[ybW_ zaa_];exact v
 have Q:(Int.toNat ((List.length L:Int) - 1 - (k:Int)))<List.length (List.set M k d):=by rw[yaZ_];omega
 refine c_ (bJ_ x aE_ af_ rfl rfl zaa_ zaa_) rfl (Zz 3 ?_);refine j_ 15 rfl zk (eu_ (k:=((Int.toNat ((List.length L:Int) - 1 - (k:Int))):Int).toNat*1+0) x an_ af_ rfl rfl zaa_ rfl rfl λA T=>?_);have I:=(gZ_ cS_ 1 er_ (List.set M k d) (Int.toNat ((List.length L:Int) - 1 - (k:Int))) 0 d h (i4_ h) F zaj_ rfl).trans (yag_ _ (rfl));have C:av_ 3 1 u (List.length (List.set (List.set M k d) (Int.toNat ((List.length L:Int) - 1 - (k:Int))) h)) (List.flatMap cS_ (List.set (List.set M k d) (Int.toNat ((List.length L:Int) - 1 - (k:Int))) h)) A:=by rw[<-I,show List.length (List.set (List.set M k d) (Int.toNat ((List.length L:Int) - 1 - (k:Int))) h)=List.length (List.set M k d) from (yaZ_ ..)];exact T
 exact nh_
def b2C (e:Bool×Bool):List Value:=[.bool e.1,.bool e.2]
theorem mr_ (e:Bool×Bool):(b2C e).length=2:=rfl
structure SeenI (W:List Wy) (B:List (Bool×Bool)) (n:Nat):Prop where
  len:B.length=n
  at':∀ r,r<n->B[r]? = some (pK_ W r false,pK_ W r true)
theorem yn_ (W:List Wy) (w:Wy) (r:Nat) (b:Bool):pK_ (W++[w]) r b=(pK_ W r b||(w.role==r&&w.strict==b)):=by simp[pK_]
theorem SeenI.push {W:List Wy} {B:List (Bool×Bool)} {n r:Nat} {b:Bool} {bf m:Nat} {u:Bool×Bool} (h:SeenI W B n) (e:B[r]? = some u):SeenI (W++[⟨r,b,bf,m⟩]) (B.set r (if b then (u.1,true) else (true,u.2))) n:=by
  have k:=(yaf_.1 e).1;have hl:=h.len;refine⟨by grind,λq d=>?_⟩;have o:=h.at' q d
  grind[yn_]
theorem SeenI.init {n s:Nat} (k:s<n):SeenI [⟨s,false,0,0⟩] (List.set (List.replicate n (false,false)) s (true,false)) n:=by
  have e:SeenI [] (List.replicate n (false,false)) n:=⟨ybJ_,λr h=>by rw[List.getElem?_replicate,yax_ h];rfl⟩;have d:(List.replicate n (false,false))[s]? = some (false,false):=by grind
  have:=e.push (b:=false) (bf:=0) (m:=0) d
  grind
def CirR (G:List (List (Nat×Bool))) (start most:Nat) (L:List Int) (ad:Ao) (cap:Nat):Prop :=
  (L=[]/\ad=none/\cap=0/\∀ (n:Nat) (f:Nat->Nat) (c:Nat->Bool),Clw (gE G) n f c->f 0=start->most<=n)\/
  (ad≠none/\(∃ n,Clo (gE G) n)/\(∀ x∈L,0<=x/\x<(G.length:Int))/\L.length<=2*G.length+1)
theorem jo_ {P:Program} {N:Nf} {fr:Fr} {H:Hp} {Γ:List Fct} {t e ty:TypeId} {x y:Operand} {b k i:Nat} (h:∀ w,(underlying t).run P w=.ok (.array 2 e) w) (o:∀ w,(sizeOf e).run P w=.ok 1 w) (u:Fr.ev fr x=some (zp_ b k)) (d:Fr.ev fr y=some (i4_ i)) (hi:i<2) :
    Yld P N fr H Γ (.indexAddr t x y) ty (.pointer (some ⟨b,k+i,none⟩)):=by
  have:=gL_ (P:=P) (N:=N) (fr:=fr) (H:=H) (Γ:=Γ) (ty:=ty) h o u d zaa_ zaa_
  grind
theorem av_.lit {e:TypeId} {sz b:Nat} {xs:List Value} {n:Nat} (hl:xs.length=n*sz) (d:n<=maxLen):av_ e sz (.slice (some ⟨b,0,none⟩) n n) n xs [(b,.cells xs.toArray e (0,0))] :=
  ⟨hl,.inr ⟨b,n,xs.toArray,rfl,rfl,yab_ _,d,by omega,by grind⟩⟩
theorem ng_ {G:Prop} (h:G:=by
 have Y:=T;refine Zz 8 ?_;exact w_ ⟨(k+1,a3,K,I,M,G,a4),(H.skip E hGw Q (λq=>by have C:=hcll;rw[q.2]at C;simp[q.1]at C) (by rw[U];have C:=Y;rw[hbe]at C;exact C)),J,E,a0,d,A⟩ zae_ zl (E_ (g_ f_) (E_ (g_ f_) (bP_ (g_ ag_) ah_))) zh):G:=h
theorem AS_ (R:List Str) (rad:Ao) (rcap:Nat) (X:List Grw) (a2:Ao) (a6 start most:Nat) (hlen:X.length=R.length) (hs:start<X.length) (hto:∀ (i:Nat) (l:List (Nat×Bool)),(X.map Grw.st)[i]? = some l->∀ s∈l,s.1<((X.map Grw.st)).length) (hXl:X.length<=100000) (hrows:∀ y∈X,y.st.length<=100000000) (hmost:most<=200000):Tri prog 132 #[.agg #[.slice rad R.length rcap,.slice a2 X.length a6],i4_ start,i4_ most] [] [O_ rad (R.flatMap V_),O_ a2 (X.flatMap Grw.cells),iF_ X] (λy:{y:List Int×Ao×Nat // CirR (X.map Grw.st) start most y.1 y.2.1 y.2.2/\y.1.length<=y.2.2/\y.2.2<=maxLen/\(y.2.1=none->y.2.2=0)}=>.slice y.1.2.1 y.1.1.length y.1.2.2) (λ_=>[]) (λy=>[O_ y.1.2.1 (y.1.1.flatMap cS_)]):=by
 refine l_ func132 rfl rfl ntmps132 rfl λv_1=>?_;refine Zz 2 ?_;refine Q_ rfl rfl λa1=>Zz 3 ?_
 refine xy_ (Zz 3 ?_);refine c_ (x_ rT_ rfl rfl) rfl (p_ eI_ gM_ qq_ rfl rfl rfl rfl rfl rfl λb_2=>Zz 4 ?_);have hqW:av_ 256 4 (.slice (some ⟨b_2,0,none⟩) 1 1) (List.length [(Wy.mk start false 0 0)]) (List.flatMap wyC [(Wy.mk start false 0 0)]) [(b_2,.cells #[i4_ start,.bool false,i4_ (0:Int),i4_ (0:Int)] 256 (0,0))]:=av_.lit rfl zaj_;refine s_ (H':=([(b_2,.cells #[i4_ start,.bool false,i4_ (0:Int),i4_ (0:Int)] 256 (0,0))]++((a1,.cells #[.slice rad R.length rcap,.slice a2 X.length a6] 184 (0,0))::[]))) (List.Perm.refl _) (Zz 4 ?_);refine jE_ (n:=R.length) (by':=2) underlying258 (z:=.agg #[.bool false,.bool false]) zk rfl zaj_ rfl rfl zaa_ zay_ rfl λsvB HrB hrB=>?_;have hqB:av_ 259 2 svB (List.replicate R.length (false,false)).length (List.flatMap b2C (List.replicate R.length (false,false))) HrB:=by rw[ybJ_,<-lK_ b2C];exact hrB
 have hzl:List.length (List.replicate R.length (false,false))=R.length:=ybJ_;have hz_1:(List.replicate R.length (false,false))[start]? = some (false,false):=by rw[List.getElem?_replicate,yax_ zaa_]
 refine Zz 3 ?_;refine s_ (cg_ (ae_ bS_)) (Zz 4 ?_);refine c_ (bJ_ hqB ky_ zm_ rfl rfl zaa_ zaa_) rfl (c_ (jo_ (i:=0) kx_ bD_ rfl rfl zaj_) rfl (eu_ (k:=(start:Int).toNat*2+0) hqB zp bD_ rfl rfl zaa_ rfl rfl λHr_1 hr_1=>?_));have hs_1:=(gZ_ b2C 2 mr_ (List.replicate R.length (false,false)) start 0 (false,false) (true,false) (.bool true) hz_1 zaj_ rfl).trans (yag_ _ (rfl));have hq_1:av_ 259 2 svB (List.set (List.replicate R.length (false,false)) start (true,false)).length (List.flatMap b2C (List.set (List.replicate R.length (false,false)) start (true,false))) Hr_1:=by rw[<-hs_1,show List.length (List.set (List.replicate R.length (false,false)) start (true,false))=List.length (List.replicate R.length (false,false)) from (yaZ_ ..)];exact hr_1
 refine Zz 3 ?_;refine xz_ (Zz 2 ?_);refine s_ (cg_ (ae_ f_)) (Zz 6 ?_);refine Y_ (ι:={y:Nat×List Wy×List (Bool×Bool)×Value×Hp×Value×Hp // BI (X.map Grw.st) start y.2.1 y.1 0/\SeenI y.2.1 y.2.2.1 X.length/\y.1<=List.length y.2.1/\zR 256 4 wyC y.2.2.2.1 y.2.1 y.2.2.2.2.1/\zR 259 2 b2C y.2.2.2.2.2.1 y.2.2.1 y.2.2.2.2.2.2}) (λy=>[(1,i4_ start),(2,i4_ most),(3,zp_ a1 0),(6,.slice none 0 0),(7,y.1.2.2.2.1),(8,y.1.2.2.2.2.2.1),(9,i4_ y.1.1)]) (λy=>((a1,.cells #[.slice rad R.length rcap,.slice a2 X.length a6] 184 (0,0))::(y.1.2.2.2.2.1++y.1.2.2.2.2.2.2))) (λy=>[O_ rad (R.flatMap V_),O_ a2 (X.flatMap Grw.cells),iF_ X]) (λy=>2*X.length - y.1.1) ⟨((0:Nat),[(Wy.mk start false 0 0)],(List.set (List.replicate R.length (false,false)) start (true,false)),(.slice (some ⟨b_2,0,none⟩) 1 1),[(b_2,.cells #[i4_ start,.bool false,i4_ (0:Int),i4_ (0:Int)] 256 (0,0))],svB,Hr_1),BI.init (by rw[yaB_];exact hs),(by rw[hlen];exact SeenI.init zaa_),zak_,hqW,hq_1⟩ zl zp zh ?_;rintro ⟨⟨a,W,Bl,I,M,G,a4⟩,hI,hSn,ha,d,A⟩;dsimp only at hI hSn ha d A ⊢;refine Zz 5 ?_;refine c_ (dF_ d eI_ rfl) rfl ?_;refine Zi 0 (λhr_1=>?_) λhr_1=>?_
 .refine Zz 12 ?_
  exact W_ results132 ⟨([],none,0),.inl ⟨rfl,rfl,rfl,λn f c hc hf=>hI.none (λw hw=>by have:=(yaf_.1 hw).1;omega) hto hc hf⟩,by simp[maxLen]⟩ rfl e_ (λv _ h=>⟨.inl rfl,trivial⟩)
 have hlw_1:a<W.length:=by omega
 obtain⟨B,a7⟩:∃ o,W[a]? = some o:=⟨_,yaa_ hlw_1⟩;have hrole:=hI.role a B a7;rw[yaB_]at hrole;have hmny:=hI.many a B a7;have hWl:=hI.len;rw[yaB_]at hWl;have hly_1:(Wy.role B)<X.length:=hrole;obtain⟨F,hy_1⟩:∃ o,X[(Wy.role B)]? = some o:=⟨_,yaa_ hly_1⟩;have hmy_1:F∈X:=yad_ hy_1;have hGw:(X.map Grw.st)[Wy.role B]? = some (Grw.st F):=by rw[yaD_,hy_1];rfl
 have hyl:=hrows F hmy_1;refine Zz 11 ?_;refine c_ (bJ_ d eI_ gM_ rfl rfl zaa_ zaa_) rfl (c_ (fn_ d zp isAgg256 gM_ rfl (oB_ _) zaj_ (t_ oB_ a7)) rfl (K_ qq_ rfl λb_3=>o_ 0 gM_ rfl rfl rfl rfl rfl rfl (Zz 7 ?_)));refine c_ (aD_ (aT_ rfl rfl rfl (bB_ zaa_ zaa_)) (show _=i4_ ((Wy.many B+1:Nat):Int) from yag_ _ zaa_)) rfl (Zi 1 (λhr_2=>?_) λhr_2=>?_)
 .refine Zz 18 ?_
  refine Y_ (ι:={y:Nat×List Wy×List (Bool×Bool)×Value×Hp×Value×Hp // BI (X.map Grw.st) start y.2.1 a y.1/\SeenI y.2.1 y.2.2.1 X.length/\y.2.1[a]? = some B/\y.1<=List.length (Grw.st F)/\zR 256 4 wyC y.2.2.2.1 y.2.1 y.2.2.2.2.1/\zR 259 2 b2C y.2.2.2.2.2.1 y.2.2.1 y.2.2.2.2.2.2}) (λy=>[(1,i4_ start),(2,i4_ most),(3,zp_ a1 0),(6,.slice none 0 0),(7,y.1.2.2.2.1),(8,y.1.2.2.2.2.2.1),(9,i4_ a),(10,zp_ b_3 0),(46,.slice (Grw.ad F) (Grw.st F).length (Grw.cap F)),(47,i4_ (List.length (Grw.st F):Int)),(48,i4_ y.1.1)]) (λy=>((b_3,.cells #[i4_ (Wy.role B:Int),.bool (Wy.strict B),i4_ (Wy.before B:Int),i4_ (Wy.many B:Int)] 256 (0,0))::((a1,.cells #[.slice rad R.length rcap,.slice a2 X.length a6] 184 (0,0))::(y.1.2.2.2.2.1++y.1.2.2.2.2.2.2)))) (λy=>[O_ rad (R.flatMap V_),O_ a2 (X.flatMap Grw.cells),iF_ X]) (λy=>List.length (Grw.st F) - y.1.1) ⟨((0:Nat),W,Bl,I,M,G,a4),hI,hSn,a7,zaa_,d,A⟩ zl zp zh ?_;rintro ⟨⟨k,a3,K,I,M,G,a4⟩,H,J,E,hk,d,A⟩;dsimp only at H J E hk d A ⊢;refine Zi 2 (λhr_3=>?_) λhr_3=>?_
  .refine Zz 8 ?_
   refine c_ (aD_ (aT_ rfl rfl rfl (bB_ zaa_ zaa_)) (show _=i4_ ((a+1:Nat):Int) from yag_ _ zaa_)) rfl (Zz 3 ?_);exact w_ ⟨(a+1,a3,K,I,M,G,a4),H.next E hGw zaa_,J,(by have:=(yaf_.1 E).1;dsimp only;omega),d,A⟩ (by have q_1:=H.len;have q_2:=(yaf_.1 E).1;rw[yaB_]at q_1;dsimp only;omega) zl (E_ (g_ f_) (bP_ (g_ ag_) ah_)) zh
  have a0:k<List.length (Grw.st F):=by omega
  obtain⟨o,Q⟩:∃ o,(Grw.st F)[k]? = some o:=⟨_,yaa_ a0⟩;have hme_1:o∈(Grw.st F):=yad_ Q;have a9:=hto _ _ hGw o hme_1;have hto_2:Prod.fst o<X.length:=by have q:=a9;rw[yaB_]at q;exact q
  have hWl_1:=H.len;rw[yaB_]at hWl_1;have hbl:=J.len;have hal:=(yaf_.1 E).1;have hbv_1:=J.at' o.1 hto_2;obtain⟨bv,hbv,hbe⟩:∃ bv,K[Prod.fst o]? = some bv/\bv=(pK_ a3 o.1 false,pK_ a3 o.1 true):=⟨_,hbv_1,rfl⟩;refine Zz 10 ?_;refine c_ (J_ runUnderlying248 sizeOf252 rfl rfl (λv _ h=>az_ (n:=2) pU_ zaj_ (by exact (h.2.2.1 F hmy_1)) Q) zaa_ zah_) rfl ?_;refine c_ (ax_ (ad:=(Grw.ad F)) (us:=un_ o) isAgg252 sizeOf252 rfl (λv _ h=>by exact (h.2.2.1 F hmy_1)) (pU_ _) (t_ pU_ Q)) rfl (K_ zeroValue252 rfl λb_4=>o_ 0 sizeOf252 rfl rfl rfl rfl rfl rfl (Zz 5 ?_));refine A_ (aK_ 1 cG_ rfl rfl rfl) rfl λr_1 hr_4=>Zz 1 ?_
  refine aB_ 3 (((Wy.strict B))||(o.2)) (λr=>[(1,i4_ start),(2,i4_ most),(3,zp_ a1 0),(6,.slice none 0 0),(7,I),(8,G),(9,i4_ a),(10,zp_ b_3 0),(46,.slice (Grw.ad F) (Grw.st F).length (Grw.cap F)),(47,i4_ (List.length (Grw.st F):Int)),(48,i4_ k),(12,zp_ b_4 0),(57,.bool r)]) ?_ λr_2 a8=>?_
  .cases r_1
   .have Z:=hr_4
    refine Zz 3 ?_;refine A_ (aK_ 0 cG_ rfl rfl rfl) rfl λr_3 O=>Zz 3 ?_
    exact met (zm (jof Z O))
   have Z:=hr_4;refine Zz 5 ?_;exact met ⟨rfl,rfl,rfl,rfl,rfl,rfl,rfl,rfl,rfl,rfl,rfl,rfl,(n_ rfl (jot Z)),trivial⟩
  refine Zz 9 ?_;refine A_ (al_ rfl rfl) rfl λr_3 O=>Zz 1 ?_
  refine aB_ 2 ((((Prod.fst o:Nat):Int)==(start:Int))&&((((Wy.strict B))||(o.2)))) (λr=>[(1,i4_ start),(2,i4_ most),(3,zp_ a1 0),(6,.slice none 0 0),(7,I),(8,G),(9,i4_ a),(10,zp_ b_3 0),(46,.slice (Grw.ad F) (Grw.st F).length (Grw.cap F)),(47,i4_ (List.length (Grw.st F):Int)),(48,i4_ k),(12,zp_ b_4 0),(13,.bool r_2),(64,.bool r)]) ?_ λr_4 hr_7=>?_
  .cases r_3
   .have Z:=O
    replace O:=znb O;refine Zz 4 ?_;exact met ⟨rfl,rfl,rfl,rfl,rfl,rfl,rfl,rfl,rfl,rfl,rfl,rfl,rfl,(n_ rfl (jaf Z)),trivial⟩
   have Z:=O;replace O:=zeb O;refine Zz 5 ?_;exact met ⟨rfl,rfl,rfl,rfl,rfl,rfl,rfl,rfl,rfl,rfl,rfl,rfl,rfl,(n_ rfl (jat Z a8)),trivial⟩
  refine Zz 2 ?_;cases r_4
  .have hcll:=hr_7
   refine Zz 14 ?_;cases r_2
   .have U:=a8
    refine Zz 10 ?_;refine c_ (bJ_ A ky_ zm_ rfl rfl zaa_ zaa_) rfl (c_ (jo_ (i:=0) kx_ bD_ rfl rfl zaj_) rfl (A_ (cH_ A (g_ (g_ (g_ bS_))) cG_ rfl (t_ mr_ hbv 0 _ rfl)) rfl λr_5 T=>Zz 2 ?_));cases r_5
    .have Y:=T
     refine Zz 9 ?_;refine c_ (bJ_ A ky_ zm_ rfl rfl zaa_ zaa_) rfl (c_ (jo_ (i:=0) kx_ bD_ rfl rfl zaj_) rfl (eu_ (k:=((Prod.fst o:Nat):Int).toNat*2+0) A (g_ (g_ (g_ bS_))) bD_ rfl rfl zaa_ rfl rfl λP hr_2=>?_));have hs_2:=(gZ_ b2C 2 mr_ K (Prod.fst o:Nat) 0 bv (true,Prod.snd bv) (.bool true) hbv zaj_ rfl).trans (yag_ _ (rfl));have V:av_ 259 2 G (List.length (List.set K (Prod.fst o:Nat) (true,Prod.snd bv))) (List.flatMap b2C (List.set K (Prod.fst o:Nat) (true,Prod.snd bv))) P:=by rw[<-hs_2,show List.length (List.set K (Prod.fst o:Nat) (true,Prod.snd bv))=K.length from (yaZ_ ..)];exact hr_2
     refine Zz 2 ?_;refine s_ (aL_ (ae_ f_) (aL_ (ae_ f_) (cg_ (ae_ f_)))) (Zz 8 ?_);refine c_ (aD_ (aT_ rfl rfl rfl (bB_ zaa_ zaa_)) (show _=i4_ ((Wy.many B+1:Nat):Int) from yag_ _ zaa_)) rfl (c_ (x_ rT_ rfl rfl) rfl (p_ eI_ gM_ qq_ rfl rfl rfl rfl rfl rfl λb_5=>?_));refine am_ (news:=List.flatMap wyC [(Wy.mk (Prod.fst o:Nat) false a (Wy.many B+1:Nat))]) AF_ d rfl rfl zp rfl (aO_ 0 rfl) (λu hu=>aF_ vV_ hu) zab_ zac_ rfl λS Hr_3 hr_3=>?_;have hq_3:=zsa hr_3;refine Zz 3 ?_;refine s_ (aL_ (ae_ f_) (aL_ (ae_ f_) (aL_ (ae_ f_) (cg_ (ae_ f_))))) (Zz 5 ?_);exact w_ ⟨(k+1,(a3++[(Wy.mk (Prod.fst o:Nat) false a (Wy.many B+1:Nat))]),(List.set K (Prod.fst o:Nat) (true,Prod.snd bv)),S,Hr_3,G,P),zbi_,(J.push (b:=false) (bf:=a) (m:=Wy.many B+1) hbv),zbP_,a0,hq_3,V⟩ zae_ zl (E_ (g_ (g_ f_)) (E_ (g_ (g_ f_)) (bP_ (g_ (g_ ag_)) (g_ ah_)))) zh
    exact ng_
   have U:=a8;refine Zz 12 ?_;refine c_ (bJ_ A ky_ zm_ rfl rfl zaa_ zaa_) rfl (c_ (jo_ (i:=1) kx_ bD_ rfl rfl zaj_) rfl (A_ (cH_ A (g_ (g_ (g_ bS_))) cG_ rfl (t_ mr_ hbv 1 _ rfl)) rfl λr_5 T=>Zz 2 ?_));cases r_5
   .have Y:=T
    refine Zz 9 ?_;refine c_ (bJ_ A ky_ zm_ rfl rfl zaa_ zaa_) rfl (c_ (jo_ (i:=1) kx_ bD_ rfl rfl zaj_) rfl (eu_ (k:=((Prod.fst o:Nat):Int).toNat*2+1) A (g_ (g_ (g_ bS_))) bD_ rfl rfl zaa_ rfl rfl λP hr_4=>?_));have hs_2:=(gZ_ b2C 2 mr_ K (Prod.fst o:Nat) 1 bv (Prod.fst bv,true) (.bool true) hbv zaj_ rfl).trans (yag_ _ (rfl));have V:av_ 259 2 G (List.length (List.set K (Prod.fst o:Nat) (Prod.fst bv,true))) (List.flatMap b2C (List.set K (Prod.fst o:Nat) (Prod.fst bv,true))) P:=by rw[<-hs_2,show List.length (List.set K (Prod.fst o:Nat) (Prod.fst bv,true))=K.length from (yaZ_ ..)];exact hr_4
    refine Zz 2 ?_;refine s_ (aL_ (ae_ f_) (aL_ (ae_ f_) (cg_ (ae_ f_)))) (Zz 8 ?_);refine c_ (aD_ (aT_ rfl rfl rfl (bB_ zaa_ zaa_)) (show _=i4_ ((Wy.many B+1:Nat):Int) from yag_ _ zaa_)) rfl (c_ (x_ rT_ rfl rfl) rfl (p_ eI_ gM_ qq_ rfl rfl rfl rfl rfl rfl λb_5=>?_));refine am_ (news:=List.flatMap wyC [(Wy.mk (Prod.fst o:Nat) true a (Wy.many B+1:Nat))]) AF_ d rfl rfl zp rfl (aO_ 0 rfl) (λu hu=>aF_ vV_ hu) zab_ zac_ rfl λS Hr_3 a8=>?_;have hq_3:=zsa a8;refine Zz 3 ?_;refine s_ (aL_ (ae_ f_) (aL_ (ae_ f_) (aL_ (ae_ f_) (cg_ (ae_ f_))))) (Zz 5 ?_);exact w_ ⟨(k+1,(a3++[(Wy.mk (Prod.fst o:Nat) true a (Wy.many B+1:Nat))]),(List.set K (Prod.fst o:Nat) (Prod.fst bv,true)),S,Hr_3,G,P),zbi_,(J.push (b:=true) (bf:=a) (m:=Wy.many B+1) hbv),zbP_,a0,hq_3,V⟩ zae_ zl (E_ (g_ (g_ f_)) (E_ (g_ (g_ f_)) (bP_ (g_ (g_ ag_)) (g_ ah_)))) zh
   exact ng_
  have hclT:=hr_7;refine Zz 3 ?_;refine s_ (H':=((b_4,.cells #[i4_ ((Prod.fst o:Nat):Int),.bool o.2] 252 (0,0))::((b_3,.cells #[i4_ (Wy.role B:Int),.bool (Wy.strict B),i4_ (Wy.before B:Int),i4_ (Wy.many B:Int)] 256 (0,0))::((a1,.cells #[.slice rad R.length rcap,.slice a2 X.length a6] 184 (0,0))::(M++(a4++([]:Hp))))))) (List.Perm.cons _ (List.Perm.cons _ (List.Perm.cons _ (ybh_ M (ycN_ (yas_ _).symm))))) ?_;refine Y_ (ι:={y:Nat×List Int×Value×Hp×Value×Hp // y.1<=a/\(∀ x∈y.2.1,0<=x/\x<(List.length X:Int))/\y.2.1.length+y.1<=a/\zR 256 4 wyC y.2.2.1 a3 y.2.2.2.1/\zR 3 1 cS_ y.2.2.2.2.1 y.2.1 y.2.2.2.2.2}) (λy=>[(1,i4_ start),(2,i4_ most),(3,zp_ a1 0),(6,y.1.2.2.2.2.1),(7,y.1.2.2.1),(8,G),(9,i4_ y.1.1),(10,zp_ b_3 0),(46,.slice (Grw.ad F) (Grw.st F).length (Grw.cap F)),(47,i4_ (List.length (Grw.st F):Int)),(48,i4_ k),(12,zp_ b_4 0)]) (λy=>((b_4,.cells #[i4_ ((Prod.fst o:Nat):Int),.bool o.2] 252 (0,0))::((b_3,.cells #[i4_ (Wy.role B:Int),.bool (Wy.strict B),i4_ (Wy.before B:Int),i4_ (Wy.many B:Int)] 256 (0,0))::((a1,.cells #[.slice rad R.length rcap,.slice a2 X.length a6] 184 (0,0))::(y.1.2.2.2.1++y.1.2.2.2.2.2))))) (λy=>[O_ rad (R.flatMap V_),O_ a2 (X.flatMap Grw.cells),iF_ X]) (λy=>y.1.1) ⟨(a,([]:List Int),I,M,(.slice none 0 0),([]:Hp)),(yab_ _),zak_,zak_,d,(av_.nil _ _)⟩ zl zp zh ?_;rintro ⟨⟨a_1,L,I,M,sv_RL,H_RL⟩,ha_1,hLx,hLl,d,hr_RL⟩;dsimp only at ha_1 hLx hLl d hr_RL ⊢;refine Zi 4 (λT=>?_) λT=>?_
  .refine Zz 9 ?_
   refine p_ aE_ af_ bQ_ rfl rfl rfl rfl rfl rfl λb_5=>?_;refine am_ (news:=List.flatMap cS_ [(start:Int)]) hv_ hr_RL rfl rfl zp rfl (aO_ 0 rfl) (λu hu=>aF_ gk_ hu) zab_ zac_ rfl λS P hr_9=>?_;have V:=zsa hr_9;refine Zz 3 ?_;refine s_ (aL_ (ae_ f_) (aL_ (ae_ f_) (aL_ (ae_ f_) (cg_ (ae_ f_))))) (Zz 3 ?_);refine d_ (xH_ (L++[(start:Int)]) S P V (by have:=(yaf_.1 E).1;simp only[yae_,ybK_];omega)) rfl (g_ (g_ (g_ (g_ ag_)))) zt rfl λ⟨Hv_1,hv_1⟩=>?_;dsimp only;have hqL_1:av_ 3 1 S (List.length (List.reverse (L++[(start:Int)]))) (List.flatMap cS_ (List.reverse (L++[(start:Int)]))) Hv_1:=hv_1;refine Zz 4 ?_;refine s_ (aL_ (ae_ f_) (aL_ (ae_ f_) (aL_ (ae_ f_) (cg_ (ae_ f_))))) (Zz 7 ?_);refine I_ hqL_1 (g_ (g_ (g_ (g_ ag_)))) λlad lcap hlad hclad hmlad hzlad=>?_;have hln:lad≠none:=λe=>by have q:=hzlad e;have q_1:=hclad;rw[q]at q_1;simp only[List.length_reverse,yae_,ybK_]at q_1;omega
   exact W_ results132 ⟨((List.reverse (L++[(start:Int)])),lad,lcap),.inr ⟨hln,⟨_,H.found E hGw Q (by have C:=hclT;simp only[yaJ_,ybZ_]at C;omega) (by have C:=hclT;simp only[yaJ_]at C;exact C.2)⟩,(λx hx=>by rw[List.mem_reverse]at hx;rw[yaB_];rcases yaj_.1 hx with hx|hx;exact hLx x hx;rw[yal_]at hx;subst hx;omega),(by have:=H.len;rw[yaB_]at this;simp only[List.length_reverse,yae_,ybK_,yaB_];omega)⟩,hclad,hmlad,hzlad⟩ (cw_ rfl hlad) e_ zf
  have hlw_2:a_1<a3.length:=by have:=(yaf_.1 E).1;omega
  obtain⟨b0,a5⟩:∃ o,a3[a_1]? = some o:=⟨_,yaa_ hlw_2⟩;refine Zz 11 ?_;refine c_ (bJ_ d eI_ gM_ rfl rfl zaa_ zaa_) rfl (Zz 1 ?_);refine c_ (cH_ d zp aU_ rfl (t_ oB_ a5 0 _ rfl)) rfl (p_ aE_ af_ bQ_ rfl rfl rfl rfl rfl rfl λb_5=>?_);refine am_ (news:=List.flatMap cS_ [(Wy.role b0:Int)]) hv_ hr_RL rfl rfl zp rfl (aO_ 0 rfl) (λu hu=>aF_ gk_ hu) zab_ zac_ rfl λS P O=>?_;have V:=zsa O;refine Zz 3 ?_;refine s_ (aL_ (ae_ f_) (aL_ (ae_ f_) (aL_ (ae_ f_) (cg_ (ae_ f_))))) (Zz 3 ?_);refine c_ (bJ_ d eI_ gM_ rfl rfl zaa_ zaa_) rfl (Zz 1 ?_);refine c_ (cH_ d zp aU_ rfl (t_ oB_ a5 2 _ rfl)) rfl (Zz 3 ?_);exact w_ ⟨((Wy.before b0),(L++[(Wy.role b0:Int)]),I,M,S,P),(by have:=H.bef a_1 b0 a5 zaa_;omega),(λx hx=>by rcases yaj_.1 hx with hx|hx;exact hLx x hx;rw[yal_]at hx;subst hx;have:=H.role a_1 b0 a5;rw[yaB_]at this;omega),(by have:=H.bef a_1 b0 a5 zaa_;simp only[yae_,ybK_];omega),d,V⟩ (by have:=H.bef a_1 b0 a5 zaa_;dsimp only;omega) zl (E_ (g_ f_) (E_ (g_ f_) (E_ (g_ f_) (bP_ (g_ bS_) ah_)))) zh
 refine Zz 12 ?_;exact W_ results132 ⟨([],none,0),.inl ⟨rfl,rfl,rfl,λn f c hc hf=>hI.none (λw hw=>by rw[a7]at hw;simp only[yai_]at hw;subst hw;omega) hto hc hf⟩,by simp[maxLen]⟩ rfl e_ (λv _ h=>⟨.inl rfl,trivial⟩)
theorem xa_ (x:Ax):∀ i,(x.chs i).length<=i
  | 0=>by grind[Ax.chs]
  | i+1=>by
    have:=xa_ x i
    grind[Ax.chs]
theorem uT_ {x:Ax} (h:x.check=0):x.steps.length<=4:=by
 unfold Ax.steps
 split
 .grind
 split
 .rename_i d
  have:=(Ax.good_of h).chain d
  grind[xa_]
 simp
theorem fg_:∀ (l:List Ax),(∀ x∈l,x.check=0)->(bM_ l).length<=4*l.length
  | [],_=>by grind[bM_]
  | x::l,h=>by
    have e:=fg_ l λy d=>h y (yaN_ _ d)
    grind[uT_,bM_]
theorem MmO.ksl {u:Nat} {ks:List (Str×Nat)} {S:List RSt} {H:Hp} (h:MmO u ks S H) (v:Frm ks S):ks.length<=S.length:=by
  obtain⟨es,c,E,_,hE⟩:=h
  have e:ks.map (·.1) ⊆ S.map (·.1):=λk o=>by
    obtain⟨s,d,x⟩:=v k o
    grind
  have:=hE.nd.length_le_of_subset e
  grind
def jZ_ (G:List (List (Nat×Bool))) (i most:Nat) (L:List Int) (ad:Ao) (cap:Nat):Prop :=
  (L=[]/\ad=none/\cap=0/\most=G.length+1/\∀ (n:Nat) (f:Nat->Nat) (c:Nat->Bool),Clw (gE G) n f c->f 0<i->most<=n)\/
  (ad≠none/\most<=2*G.length+1/\(∃ n,Clo (gE G) n)/\(∀ x∈L,0<=x/\x<(G.length:Int))/\L.length<=2*G.length+1)
theorem jZ_.init {G:List (List (Nat×Bool))}:jZ_ G 0 (G.length+1) [] none 0:=.inl ⟨rfl,rfl,rfl,rfl,λ_ _ _ _ h=>by omega⟩
theorem jZ_.skip {G:List (List (Nat×Bool))} {i most:Nat} {L M:List Int} {ad:Ao} {cap cp:Nat} (h:jZ_ G i most L ad cap) (u:CirR G i most M none cp):jZ_ G (i+1) most L ad cap:=by
 rcases h with⟨o,d,e,k,v⟩|h
 .rcases u with⟨_,_,_,u⟩|⟨u,_⟩
  .refine .inl ⟨o,d,e,k,λn f c x y=>?_⟩
   grind
  grind
 exact .inr h
theorem jZ_.take {G:List (List (Nat×Bool))} {i most:Nat} {L M:List Int} {ad d:Ao} {cap cp:Nat} (h:jZ_ G i most L ad cap) (k:CirR G i most M d cp) (x:d≠none):jZ_ G (i+1) M.length M d cp:=by
 rcases k with⟨_,k,_⟩|⟨u,o,v,e⟩
 .grind
 exact .inr ⟨u,e,o,v,e⟩
theorem jZ_.none {G:List (List (Nat×Bool))} {most:Nat} {L:List Int} {cap:Nat} (h:jZ_ G G.length most L none cap):∀ n,¬ Clo (gE G) n:=by
  rcases h with⟨_,_,_,d,e⟩|⟨h,_⟩
  all_goals grind[AR_]
theorem jZ_.some {G:List (List (Nat×Bool))} {i most:Nat} {L:List Int} {ad:Ao} {cap:Nat} (h:jZ_ G i most L ad cap) (o:ad≠Option.none):(∃ n,Clo (gE G) n)/\(∀ x∈L,0<=x/\x<(G.length:Int))/\L.length<=2*G.length+1:=by
  rcases h with⟨_,h,_⟩|⟨_,_,e,d,k⟩
  all_goals grind
theorem jZ_.most {G:List (List (Nat×Bool))} {i most:Nat} {L:List Int} {ad:Ao} {cap:Nat} (h:jZ_ G i most L ad cap):most<=2*G.length+1:=by
  rcases h with⟨_,_,_,h,_⟩|⟨_,h,_⟩<;>omega
def RlR (l:List Ax) (e:Int):Prop:=(e=0/\¬ qk_ (bM_ l))\/(e=60/\qk_ (bM_ l))
theorem RlR.uniq {l:List Ax} {a b:Int} (h:RlR l a) (k:RlR l b):a=b:=by
  rcases h with⟨rfl,h⟩|⟨rfl,h⟩<;>rcases k with⟨rfl,k⟩|⟨rfl,k⟩
  all_goals grind
theorem qs_ {P:Program} {N:Nf} {fr:Fr} {H:Hp} {Γ:List Fct} {ty t k e:TypeId} {x y:Operand} {ad:Ao} {m c:Nat} (o:P.underlying t=some (.slice e)) (u:Fr.ev fr x=some (.slice ad m c)) (h:Fr.ev fr y=some (.slice none 0 0)):Yld P N fr H Γ (.binOp .neq t x y k) ty (.bool (!decide (ad=none))) :=
  λa v d _ _ _ _ _=>by
    have A:decide (ad=none)=ad.isNone:=by cases ad<;>simp
    rw[A];simp[execOp,d.ev u,d.ev h,eqGuard,binOp,wR_ v.w t e ad m c o]
theorem xG_ (l:List Ax) (ad:Ao) (cap:Nat) (a2:∀ x∈l,x.ok) (hC:∀ x∈l,x.check=0) (hll:l.length<=20000):Tri prog 60 #[.slice ad l.length cap] [] [bA_ ad l,cy_] (λy:{y:Value×Int // RlR l y.2}=>.tuple #[y.1.1,i4_ y.1.2]) (λ_=>[]) (λ_=>[]):=by
 refine l_ func60 rfl rfl ntmps60 rfl λv_1=>?_;refine Zz 10 ?_;refine d_ (xF_ l ad cap a2 hC zaa_) rfl e_ zf rfl λ_=>Zz 6 ?_
 refine c_ (aD_ (cP_ rfl rfl) (show _=Value.bool false from yag_ Value.bool zaj_)) rfl (Zz 8 ?_);refine d_ (BC_ l ad cap a2 hC zaa_) rfl e_ zf rfl λ⟨⟨mb,ks,Hm⟩,hM,P⟩=>?_;dsimp only;simp only[yas_];dsimp only at hM P;have hSl:=fg_ l hC;have hkl:=MmO.ksl hM P;refine d_ (vp_ mb ks (bM_ l) Hm hM P zaa_ zaa_) rfl an_ zt rfl λ⟨⟨X,rad,rcap,E,I⟩,hG,b1,hXk,⟨hrs_1,hrs_2,hrs_3⟩,⟨hgs_1,hgs_2,hgs_3⟩⟩=>?_;dsimp only;dsimp only at hG b1 hXk;have hrl:List.length (cu_ (List.map (λp:Str×Nat=>p.1) ks))=ks.length:=by rw[ybm_,yaB_]
 have a4:List.length (X.map Grw.st)=X.length:=yaB_ ..;refine K_ zeroValue184 rfl λO=>o_ 0 sizeOf184 rfl rfl rfl rfl rfl rfl (Zz 7 ?_)
 refine c_ (aD_ (aT_ rfl rfl rfl (bB_ zaa_ zaa_)) (show _=i4_ ((List.length X+1:Nat):Int) from yag_ _ zaa_)) rfl (Zz 18 ?_);refine Y_ (ι:={y:Nat×Nat×List Int×Ao×Nat // y.1<=List.length (cu_ (List.map (λp:Str×Nat=>p.1) ks))/\jZ_ (X.map Grw.st) y.1 y.2.1 y.2.2.1 y.2.2.2.1 y.2.2.2.2}) (λy=>[(2,.slice none 0 0),(3,i4_ 0),(5,zp_ O 0),(6,i4_ y.1.2.1),(7,.slice y.1.2.2.2.1 y.1.2.2.1.length y.1.2.2.2.2),(26,i4_ (List.length (cu_ (List.map (λp:Str×Nat=>p.1) ks)):Int)),(27,i4_ y.1.1)]) (λy=>((O,.cells #[.slice rad (List.length (cu_ (List.map (λp:Str×Nat=>p.1) ks))) rcap,.slice E X.length I] 184 (0,0))::[])) (λy=>[O_ y.1.2.2.2.1 (y.1.2.2.1.flatMap cS_),O_ rad (List.flatMap V_ (cu_ (List.map (λp:Str×Nat=>p.1) ks))),O_ E (X.flatMap Grw.cells),iF_ X]) (λy=>List.length (cu_ (List.map (λp:Str×Nat=>p.1) ks)) - y.1.1) ⟨((0:Nat),(List.length X+1),([]:List Int),none,0),zak_,(by have q:=jZ_.init (G:=(X.map Grw.st));rw[a4]at q;exact q)⟩ zl f_ (λv _ h=>by exact⟨(.inl rfl),h.1,h.2.1,h.2.2.1,trivial⟩) ?_;rintro ⟨⟨i,mo,L,lad,lcap⟩,a8,V⟩;dsimp only at a8 V ⊢;refine Zi 2 (λF=>?_) λF=>?_
 .refine Zz 10 ?_
  refine A_ (sU_ (ad:=lad) underlying63 rfl rfl) rfl λa7 d=>Zz 2 ?_
  cases a7
  .replace d:=zdf d
   have a9:=V.some d;refine Zz 12 ?_;refine Y_ (ι:={y:Nat×List Str×Value×Hp // y.1<=List.length L/\y.2.1.length<=y.1/\zR 9 1 V_ y.2.2.1 y.2.1 y.2.2.2}) (λy=>[(2,y.1.2.2.1),(3,i4_ 0),(5,zp_ O 0),(6,i4_ mo),(7,.slice lad L.length lcap),(26,i4_ (List.length (cu_ (List.map (λp:Str×Nat=>p.1) ks)):Int)),(27,i4_ i),(42,.slice lad L.length lcap),(43,i4_ (List.length L:Int)),(44,i4_ y.1.1)]) (λy=>((O,.cells #[.slice rad (List.length (cu_ (List.map (λp:Str×Nat=>p.1) ks))) rcap,.slice E X.length I] 184 (0,0))::y.1.2.2.2)) (λy=>[O_ lad (L.flatMap cS_),O_ rad (List.flatMap V_ (cu_ (List.map (λp:Str×Nat=>p.1) ks))),O_ E (X.flatMap Grw.cells),iF_ X]) (λy=>L.length - y.1.1) ⟨((0:Nat),([]:List Str),(.slice none 0 0),[]),by simp,zak_,(av_.nil _ _)⟩ zl f_ zh ?_;rintro ⟨⟨k,C,sv_RC,H_RC⟩,Z,hCl,o⟩;dsimp only at Z hCl o ⊢;refine Zi 2 (λA=>?_) λA=>?_
   .refine Zz 14 ?_
    refine I_ o ah_ λcad ccap a0 hccad hmcad hzcad=>?_;exact gN_ results60 ⟨(_,60),.inr ⟨rfl,hG.circ.2 a9.1⟩⟩ (cw_ rfl a0) rfl rfl e_ zt
   have J:k<L.length:=by omega
   obtain⟨K,a5⟩:∃ B,L[k]? = some B:=⟨_,yaa_ J⟩;have U:K∈L:=yad_ a5;have hzb:=a9.2.1 K U;rw[a4]at hzb;have W:(Int.toNat K)<List.length (cu_ (List.map (λp:Str×Nat=>p.1) ks)):=by omega
   obtain⟨rz,hrz⟩:∃ B,(cu_ (List.map (λp:Str×Nat=>p.1) ks))[(Int.toNat K)]? = some B:=⟨_,yaa_ W⟩;refine Zz 22 ?_;refine p_ m_ B_ ak_ rfl rfl rfl rfl rfl rfl λb_2=>?_;refine am_ (news:=List.flatMap V_ [rz]) ch_ o rfl rfl zp rfl (aO_ 0 rfl) (λu hu=>aF_ bN_ hu) zab_ zac_ rfl λY a3 F=>?_;refine s_ yah_ ?_;have a6:=zsa F;refine Zz 8 ?_;exact w_ ⟨(k+1,(C++[rz]),Y,a3),J,zbR_,a6⟩ zae_ zl (E_ (g_ f_) ah_) zh
  replace d:=zdt d;refine Zz 8 ?_;exact gN_ results60 ⟨(.slice none 0 0,0),.inl ⟨rfl,λq=>by obtain⟨n,hn⟩:=hG.circ.1 q;exact jZ_.none (by have a1:=V;rw[d,show i=List.length (X.map Grw.st) from zaa_]at a1;exact a1) n hn⟩⟩ rfl rfl rfl e_ zt
 have e:i<List.length (cu_ (List.map (λp:Str×Nat=>p.1) ks)):=by omega
 obtain⟨a7,d⟩:∃ B,(cu_ (List.map (λp:Str×Nat=>p.1) ks))[i]? = some B:=⟨_,yaa_ e⟩;refine Zz 19 ?_;refine d_ (AS_ (cu_ (List.map (λp:Str×Nat=>p.1) ks)) rad rcap X E I i mo zaa_ zaa_ hG.to zaa_ (λz hz=>by have:=b1 z hz;omega) (by have:=V.most;omega)) rfl e_ zf rfl λ⟨⟨M,T,b0⟩,H,R,S,Q⟩=>?_;dsimp only;dsimp only at H R S Q;refine Zz 6 ?_;refine A_ (qs_ (ad:=T) underlying63 rfl rfl) rfl λr_2 A=>Zz 2 ?_
 cases r_2
 .refine Zz 8 ?_
  exact w_ ⟨(i+1,mo,L,lad,lcap),e,(V.skip (by have q:=H;rw[show T=none from by simpa using A]at q;exact q))⟩ zae_ zl f_ (λ_ _ h=>h.2)
 refine Zz 14 ?_;exact w_ ⟨(i+1,M.length,M,T,b0),e,(V.take H (by simpa using A))⟩ zae_ zl f_ zf
def qT (x w:Tre):Bool:=Con.cmp x.con w.con==0
def kG_ (t:Tre):Prop:=t.wf/\t.con.sz<=1000000
theorem Dh_ (x w:Tre) (d:kG_ x) (e:kG_ w):Tri prog 201 #[Tre.val x,Tre.val w] [] [Tre.memF x,Tre.memF w] (λ_:Unit=>.bool (qT x w)) (λ_=>[]) (λ_=>[]):=by
  refine l_ func201 rfl rfl ntmps201 rfl λv=>?_;refine Zz 2 ?_;refine Q_ rfl rfl λk=>Q_ rfl rfl λu=>Zz 7 ?_
  refine d_ (mO_ _ x w (yab_ _) d.1 e.1 d.2 e.2) rfl e_ zf rfl λ_=>A_ (al_ rfl rfl) rfl λo h=>Zz 4 ?_
  exact W_ results201 () (n_ rfl (by rw[<-h];rfl)) e_ zt
theorem yA_ (e:List Tre) (sv:Value) (Hr:Hp) (hr:zR 171 7 Tre.cells sv e Hr) (V:∀ t∈e,kG_ t) (hl:e.length<=1000000):Tri prog 200 #[sv,.func (.func 201) #[] #[]] Hr [dA_ e] (λy:{y:Value×Hp // zR 171 7 Tre.cells y.1 (cpL qT e) y.2}=>y.1.1) (λy=>y.1.2) (λ_=>[]):=by
 refine l_ func200 rfl rfl ntmps200 rfl λv_1=>?_;refine Zz 9 ?_;refine c_ (dF_ hr bq_ rfl) rfl ?_;refine Zi 0 (λL=>?_) λL=>?_
 .refine Zz 12 ?_
  refine Y_ (ι:={y:Nat×Value×Hp // y.1+1<=List.length e/\cpL qT (List.take (y.1+1) e)=List.take (y.1+1) e/\zR 171 7 Tre.cells y.2.1 e y.2.2}) (λy=>[(0,y.1.2.1),(1,.func (.func 201) #[] #[]),(5,i4_ ((y.1.1+1:Nat):Int))]) (λy=>(y.1.2.2)) (λy=>[dA_ e]) (λy=>e.length - y.1.1) ⟨((0:Nat),sv,Hr),zaa_,(by obtain⟨t_1,tl,rfl⟩:=ybt_ (show 0<e.length by omega);rfl),hr⟩ zl an_ zh ?_;rintro ⟨⟨k,x,J⟩,hk,Q,d⟩;dsimp only at hk Q d ⊢;refine Zz 5 ?_;refine c_ (dF_ d bq_ rfl) rfl ?_;refine Zi 0 (λb2=>?_) λb2=>?_
  .refine Zz 12 ?_
   have u:cpL qT e=e:=(by first|exact rx_ zaa_|(have q:=Q;rw[yac_ zaa_]at q;exact q));exact W_ results200 ⟨(x,J),by rw[u];exact d⟩ rfl an_ zt
  refine Zz 8 ?_;have R:(k+1:Nat)<e.length:=by omega
  obtain⟨S,F⟩:∃ u,e[(k+1:Nat)]? = some u:=⟨_,yaa_ R⟩;have O:S∈e:=yad_ F;have Y:k<e.length:=by omega
  obtain⟨T,G⟩:∃ u,e[k]? = some u:=⟨_,yaa_ Y⟩;have K:T∈e:=yad_ G;refine Zz 1 ?_;refine C_ 1 [0,1,2,3,4,5,6,7,8,9] zk zs (Zz 3 ?_);refine G_ rfl (bJ_ d bq_ bf_ rfl rfl zaa_ zaa_) rfl (G_ rfl (fn_ d an_ hN_ bf_ rfl (Tre.cells_len _) zaj_ (t_ Tre.cells_len F)) rfl (Zz 2 ?_));refine G_ rfl (aD_ (aT_ rfl rfl rfl (bB_ zaa_ zaa_)) (show _=i4_ k from yag_ _ zaa_)) rfl (G_ rfl (bJ_ d bq_ bf_ rfl rfl zaa_ zaa_) rfl (G_ rfl (fn_ d an_ hN_ bf_ rfl (Tre.cells_len _) zaj_ (t_ Tre.cells_len G)) rfl (bd_ (j_ 10 rfl zk (le_ (Dh_ S T (V S O) (V T K)) rfl rfl e_ (λv _ h=>by exact⟨(h.1 S O),(h.1 T K),trivial⟩) rfl λb5 W=>Zz 5 ?_)))));cases b5
  .refine Zz 5 ?_
   refine c_ (aD_ (aT_ rfl rfl rfl (bB_ zaa_ zaa_)) (show _=i4_ ((k+1+1:Nat):Int) from yag_ _ zaa_)) rfl (Zz 3 ?_);exact w_ ⟨(k+1,x,J),(by have:=R;omega),(AK_ Q G F W),d⟩ zae_ zl an_ zh
  refine Zz 5 ?_;refine c_ (sT_ (k:=(k+1:Nat)) d bq_ bf_ rfl rfl zaa_) rfl (Zz 10 ?_);refine Y_ (ι:={y:List Tre×Nat×Nat×Value×Hp // CmI qT e y.1 y.2.1 (k+1+y.2.2.1+1)/\zR 171 7 Tre.cells y.2.2.2.1 y.1 y.2.2.2.2}) (λy=>[(0,y.1.2.2.2.1),(1,.func (.func 201) #[] #[]),(5,i4_ y.1.2.1),(6,svT y.1.2.2.2.1 e.length (k+1) 7),(7,i4_ ((y.1.2.2.1+1:Nat):Int))]) (λy=>(y.1.2.2.2.2)) (λy=>[dA_ e]) (λy=>e.length - y.1.2.2.1) ⟨(e,(k+1),(0:Nat),x,J),(CmI.none Q G F W),d⟩ zl an_ zh ?_;rintro ⟨⟨M,C,o,x,J⟩,I,d⟩;dsimp only at I d ⊢;have hMl:=I.len;have hpl:=I.pl;have hkp:=I.kp;refine Zz 5 ?_;refine c_ (xi_ bq_ rfl) rfl ?_;refine Zi 0 (λa9=>?_) λa9=>?_
  .refine Zz 9 ?_
   refine c_ (sT_ (k:=C) d bq_ bf_ rfl rfl zaa_) rfl (vo_ (k:=C) d an_ bq_ df_ rfl rfl zaj_ rfl zaa_ λa4 zs_1 hz_2 a6=>s_ fB_ (Zz 6 ?_));obtain⟨a5,H,A⟩:=cutRow (P:=prog) (k:=C) a6 zaa_ zaa_;refine c_ (A bq_ bf_ rfl rfl) rfl (Zz 4 ?_);have a3:CmI qT e M C e.length:=by have q:=I;rw[show k+1+o+1=e.length by omega]at q;exact q
   have b3:=a3.done;have a2:(M.take C).length=C:=by rw[yat_];omega
   exact W_ results200 ⟨(a5,a4),by show av_ 171 7 _ _ _ _;rw[<-b3,a2,<-oH_ Tre.cells 7 Tre.cells_len];have q:=H;rw[ycJ_ (by rw[yat_,bV_ Tre.cells 7 Tre.cells_len];omega),List.take_take,Nat.min_self]at q;exact q⟩ rfl an_ zt
  refine Zz 8 ?_;have Z:(k+1+o:Nat)<M.length:=by omega
  obtain⟨U,E⟩:∃ u,M[(k+1+o:Nat)]? = some u:=⟨_,yaa_ Z⟩;have a0:(k+1+(o+1):Nat)<M.length:=by omega
  obtain⟨B,A⟩:∃ u,M[(k+1+(o+1):Nat)]? = some u:=⟨_,yaa_ a0⟩;have b1:U∈e:=by have q:=I.rest (k+1+o) zaa_;rw[E]at q;exact yad_ q.symm
  have a8:B∈e:=by have q:=I.rest (k+1+(o+1)) zaa_;rw[A]at q;exact yad_ q.symm
  refine Zz 1 ?_;refine C_ 2 [0,1,2,3,4,5,6,7,8,9] zk zs (Zz 3 ?_);refine G_ rfl (rM_ (j:=(o+1:Nat)) bq_ bf_ rfl rfl zaa_) rfl (G_ rfl (fn_ d an_ hN_ bf_ rfl (Tre.cells_len _) zaj_ (t_ Tre.cells_len A)) rfl (Zz 2 ?_));refine G_ rfl (aD_ (aT_ rfl rfl rfl (bB_ zaa_ zaa_)) (show _=i4_ o from yag_ _ zaa_)) rfl (G_ rfl (rM_ (j:=o) bq_ bf_ rfl rfl zaa_) rfl (G_ rfl (fn_ d an_ hN_ bf_ rfl (Tre.cells_len _) zaj_ (t_ Tre.cells_len E)) rfl (bd_ (j_ 10 rfl zk (le_ (Dh_ B U (V B a8) (V U b1)) rfl rfl e_ (λv _ h=>by exact⟨(h.1 B a8),(h.1 U b1),trivial⟩) rfl λb4 H=>Zz 3 ?_)))));refine C_ 0 [11] zk zs (G_ rfl (aI_ rfl) rfl (Zz 3 ?_));cases b4
  .refine Zz 2 ?_
   have a1:C<M.length:=by omega
   obtain⟨o_1,ho_1⟩:∃ u,M[C]? = some u:=⟨_,yaa_ a1⟩;refine Zz 5 ?_;refine c_ (rM_ (j:=(o+1:Nat)) bq_ bf_ rfl rfl zaa_) rfl (c_ (fn_ d an_ hN_ bf_ rfl (Tre.cells_len _) zaj_ (t_ Tre.cells_len A)) rfl (c_ (bJ_ d bq_ bf_ rfl rfl zaa_ zaa_) rfl (ps_ (k:=C*7) (us:=Tre.cells B) d an_ bf_ rfl rfl zaa_ (Tre.cells_len _) zaj_ (Tre.cells_one _) λX L=>?_)));have a7:=sw_ Tre.cells 7 Tre.cells_len M C B zaa_;have b0:av_ 171 7 x (List.set M C B).length (List.flatMap Tre.cells (List.set M C B)) X:=by rw[yaZ_,<-a7];exact L
   refine s_ fB_ (Zz 4 ?_);refine c_ (aD_ (aT_ rfl rfl rfl (bB_ zaa_ zaa_)) (show _=i4_ ((C+1:Nat):Int) from yag_ _ zaa_)) rfl (Zz 5 ?_);refine c_ (aD_ (aT_ rfl rfl rfl (bB_ zaa_ zaa_)) (show _=i4_ ((o+1+1:Nat):Int) from yag_ _ zaa_)) rfl (Zz 3 ?_);exact w_ ⟨((List.set M C B),C+1,o+1,x,X),(I.keep E A zce_),b0⟩ (by have:=I.pl;have:=I.kp;dsimp only;omega) zl an_ zh
  refine Zz 5 ?_;refine c_ (aD_ (aT_ rfl rfl rfl (bB_ zaa_ zaa_)) (show _=i4_ ((o+1+1:Nat):Int) from yag_ _ zaa_)) rfl (Zz 3 ?_);exact w_ ⟨(M,C,o+1,x,J),(I.skip E A zce_),d⟩ (by have:=I.pl;have:=I.kp;dsimp only;omega) zl an_ zh
 refine Zz 10 ?_;have u:cpL qT e=e:=(by first|exact rx_ zaa_|(have q:=Q;rw[yac_ zaa_]at q;exact q));exact W_ results200 ⟨(sv,Hr),by rw[u];exact hr⟩ rfl an_ zt
end Go.Proofs.YtbffkokbdeppaaaGreatDoor
namespace Go.Proofs.YtbffkokbdeppaaaGreatDoor
open Go Go.Sx Go.Proofs Tryz
attribute [local irreducible] Code.wp wpList wpAnyH
open Go.Vs Go.Shelf Go.RowKit
theorem Con.mem_sl:∀ (n:Nat) (c:Con),c.sz<=n->∀ (v:Vw) (q:Prop),c.mem v->c.mem ⟨v.im,v.w,q⟩
  | 0,c,h=>by grind[Con.sz_pos]
  | n+1,c,h=>λv q hm=>by
    rw[Con.mem_iff]at hm ⊢;exact⟨hm.1,λp d=>Con.mem_sl n p zaI_ v q (hm.2 p d)⟩
theorem Tre.mem_sl:∀ (n:Nat) (t:Tre),t.tz<=n->∀ (v:Vw) (q:Prop),t.mem v->t.mem ⟨v.im,v.w,q⟩
  | 0,t,h=>by grind[Tre.tz_pos]
  | n+1,t,h=>λv q hm=>by
    rw[Tre.mem_iff]at hm ⊢;exact⟨Con.mem_sl _ _ (yab_ _) v q hm.1,hm.2.1,λp d=>Tre.mem_sl n p (by have:=Tre.tz_part d;omega) v q (hm.2.2 p d)⟩
def qb_ (x w:Tre):Int:=Con.cmp x.con w.con
theorem wkoT:Wko qb_ where
  irr x:=by grind[qb_,Con.cmp_self]
  tr x y z h1 h2:=Con.cmp_lt h1 h2
  ntr x y z h1 h2 h:=by
    unfold qb_ at *;have k:=Con.cmp_anti x.con y.con;have e:=Con.cmp_anti y.con z.con;have d:=Con.cmp_anti x.con z.con;have:=Con.cmp_tr z.con y.con x.con
    grind[Tr3]
theorem BG_ {sv:Value} {d:List Tre} {Hr:Hp} (h:av_ 171 7 sv d.length (d.flatMap Tre.cells) Hr) (hl:d.length<=1000000) (e:∀ t∈d,kG_ t) :
    Tri prog 199 #[sv,.func (.func 119) #[] #[]] Hr [dA_ d] (λ_:{y:Hp×List Tre // av_ 171 7 sv y.2.length (y.2.flatMap Tre.cells) y.1/\y.2.Perm d/\y.2.Pairwise λa b=>¬ qb_ b a<0}=>.tuple #[]) (λy=>y.1.1) (λ_=>[]) :=
  sortG (Γ:=[dA_ d]) Tryz.sortTr Tre.cells_len zaj_ Tre.cells_one hN_ bf_ wkoT (callable func119 rfl rfl) (callable func199 rfl rfl)
    (λv q A=>⟨λt u=>Tre.mem_sl _ t (yab_ _) v q (A.1 t u),trivial⟩) h zaa_
    (λx o y k=>by
      have T:=mO_ _ x y (yab_ _) (e x o).1 (e y k).1 (e x o).2 (e y k).2;exact⟨T.callable,λv a b=>T.run v a ⟨b.1 x o,b.1 y k,trivial⟩⟩)
theorem wX_:∀ (l:List Tre) (x:Tre),(x::l).Pairwise (λa b=>¬ qb_ b a<0)->((cpG qT x l).Pairwise λa b=>qb_ a b<0)/\(∀ z∈cpG qT x l,qb_ x z<0)/\(∀ z∈l,z.con.core=x.con.core\/∃ w∈cpG qT x l,w.con.core=z.con.core)
  | [],x,_=>by simp[cpG]
  | y::l,x,h=>by
    rw[yaX_]at h;have d:¬ qb_ y x<0:=h.1 y zak_;obtain⟨k,e,o⟩:=wX_ l y h.2
    grind[cpG,qT,Con.cmp_zero,qb_,Con.cmp_anti,List.pairwise_cons,Con.cmp_lt,List.mem_cons_of_mem]
theorem CF_ {S:List Tre} (h:S.Pairwise λa b=>¬ qb_ b a<0):Con.SrC ((cpL qT S).map Tre.con)/\∀ z,z∈((cpL qT S).map Tre.con).map Con.core↔z∈(S.map Tre.con).map Con.core:=by
 cases S with
 | nil=>exact⟨List.Pairwise.nil,λz=>Iff.rfl⟩
 | cons x l =>
   obtain⟨d,e,k⟩:=wX_ l x h;refine⟨?_,λz=>⟨λo=>?_,λo=>?_⟩⟩
   . unfold Con.SrC
     rw[ybQ_];simp only[cpL];rw[yaX_];exact⟨e,d⟩
   all_goals grind[sE_,cpL]
theorem rw_:∀ {a b:List Con},a.map Con.core=b.map Con.core->(a.find? λc=>decide (c.kind=2)).map Con.core=(b.find? λc=>decide (c.kind=2)).map Con.core
 | [],[],_=>rfl
 | [],y::b,h=>by simp at h
 | x::a,[],h=>by simp at h
 | x::a,y::b,h=>by
   rw[yaE_,yaE_,ybv_]at h;have d:x.kind=y.kind:=Con.core_kind h.1;rw[List.find?_cons,List.find?_cons,d]
   split
   . simp[h.1]
   . exact rw_ h.2
theorem iq_ {a b:List Con} (h:a.map Con.core=b.map Con.core):(Con.meetF a).2=(Con.meetF b).2/\(Con.meetF a).1.core=(Con.meetF b).1.core:=by
  have d:=rw_ h;have hl:a.length=b.length:=by have:=yag_ List.length h;grind
  unfold Con.meetF;cases e:a.find? λc=>decide (c.kind=2) with
  | some x =>
    grind
  | none =>
    rw[e]at d;cases e2:b.find? λc=>decide (c.kind=2) with
    | some y=>grind
    | none =>
      dsimp only
      match a,b,h,hl with
      | [],[],_,_=>simp
      | [x],[y],h,_=>grind
      | x::x2::a,y::y2::b,h,hl =>
        grind[Con.core_eq,Con.kind,Con.name,Con.lo,Con.hi,Con.parts]
theorem wM_ {l:List Con} {k:Nat} {x:Con} (h:∀ c∈l.take k,c.kind≠2) (d:l[k]? = some x) (e:x.kind=2):(l.find? λc=>decide (c.kind=2))=some x:=by
  induction l generalizing k with
  | nil=>simp at d
  | cons y l ih =>
    cases k<;>grind
theorem fq_ {l:List Con} (d:∀ c∈l,c.kind≠2):(l.find? λc=>decide (c.kind=2))=none:=by
  grind
def TdR (c:Con) (y:Con×Int):Prop:=y.2=c.tdy.2/\(y.2=0->y.1.core=c.tdy.1.core/\y.1.ok)
def MtE (ps:List Con):Con×Int:=if Con.erF (ps.map Con.tdy)≠0 then (Con.zeroC,Con.erF (ps.map Con.tdy)) else Con.meetF (Con.srtC ((ps.map Con.tdy).flatMap λz=>Con.flat1 z.1))
def MtR (ps:List Con) (y:Con×Int):Prop:=y.2=(MtE ps).2/\(y.2=0->y.1.core=(MtE ps).1.core/\y.1.ok)
theorem vD_:∀ {l:List (Con×Int)} {i:Nat} {z:Con×Int},Con.erF (l.take i)=0->l[i]? = some z->z.2≠0->Con.erF l=z.2
 | [],_,_,_,h,_=>by simp at h
 | y::l,0,z,_,h,hz=>by grind[Con.erF]
 | y::l,i+1,z,h0,h,hz=>by
   rw[ycb_]at h0;simp only[Con.erF]at h0 ⊢
   by_cases e:y.2≠0
   . grind
   . rw[yam_ e]at h0 ⊢
     exact vD_ h0 zap_ hz
theorem AE_ {l:List (Con×Int)} {i:Nat} {z:Con×Int} (d:Con.erF (l.take i)=0) (h:l[i]? = some z) (e:z.2=0):Con.erF (l.take (i+1))=0:=by
  induction l generalizing i<;>grind[Con.erF]
theorem pQ_ {a b:Con} (h:a.core=b.core):(Con.flat1 a).map Con.core=(Con.flat1 b).map Con.core:=by
  grind[Con.core_kind,Con.flat1,Con.core_parts]
structure McI (ps:List Con) (i:Nat) (ts:List Tre):Prop where
  core:(ts.map Tre.con).map Con.core=(((ps.map Con.tdy).take i).flatMap λz=>Con.flat1 z.1).map Con.core
  er:Con.erF ((ps.map Con.tdy).take i)=0
  good:∀ t∈ts,kG_ t/\t.con.ok
theorem qG_ {a b:List Con} (h:a.map Con.core=b.map Con.core):Con.sz.szs a=Con.sz.szs b:=by grind[Con.szs_core,Con.cores_map]
theorem zb_:∀ ps:List Con,Con.sz.szs ((ps.map Con.tdy).flatMap λz=>Con.flat1 z.1)<=Con.sz.szs ps:=λps=>by
  have:=Con.tdys_sz ps
  grind[Con.tdys_map]
theorem McI.size {ps:List Con} {i:Nat} {d:List Tre} (h:McI ps i d):Con.sz.szs (d.map Tre.con)<=Con.sz.szs (ps.take i):=by
  rw[qG_ h.core,<-List.map_take]
  grind[zb_]
theorem McI.len {ps:List Con} {i:Nat} {d:List Tre} (h:McI ps i d):d.length<=Con.sz.szs (ps.take i):=by
  have e:=szs_len (d.map Tre.con);rw[yaB_]at e;have:=h.size;omega
theorem McI.nil {ps:List Con}:McI ps 0 []:=⟨by simp,rfl,by simp⟩
theorem McI.add {ps:List Con} {i:Nat} {v us:List Tre} {p q:Con} {e:Int} (h:McI ps i v) (B:ps[i]? = some p) (y:TdR p (q,e)) (A:e=0) (C:(us.map Tre.con).map Con.core=(Con.flat1 q).map Con.core) (E:∀ t∈us,kG_ t/\t.con.ok):McI ps (i+1) (v++us):=by
 subst A;obtain⟨u,k⟩:=y;obtain⟨x,_⟩:=k rfl;have o:(ps.map Con.tdy)[i]? = some p.tdy:=by grind
 have F:(ps.map Con.tdy).take (i+1)=(ps.map Con.tdy).take i++[p.tdy]:=by grind[List.take_add_one]
 refine⟨?_,AE_ h.er o u.symm,λt d=>?_⟩
 .grind[core,pQ_]
 rcases yaj_.1 d with d|d
 .exact h.good t d
 grind
theorem McI.done {ps:List Con} {d S:List Tre} (h:McI ps ps.length d) (k:S.Perm d) (e:S.Pairwise λa b=>¬ qb_ b a<0):(Con.meetF ((cpL qT S).map Tre.con)).2=(MtE ps).2/\(Con.meetF ((cpL qT S).map Tre.con)).1.core=(MtE ps).1.core:=by
  obtain⟨v,u⟩:=CF_ e;have o:Con.erF (ps.map Con.tdy)=0:=by have:=h.er;grind[List.take_of_length_le]
  have x:=h.core
  grind[List.take_of_length_le,Con.srtC_uniq,iq_,MtE]
theorem MtE_er {ps:List Con} {i:Nat} {p q:Con} {e:Int} {o:List Tre} (h:McI ps i o) (u:ps[i]? = some p) (k:TdR p (q,e)) (v:e≠0):e=(MtE ps).2:=by
  have d:(ps.map Con.tdy)[i]? = some p.tdy:=by grind
  have x:e=p.tdy.2:=k.1;have:=vD_ h.er d zap_
  grind[MtE]
theorem Tre.con_cells (t:Tre):∀ j y,(Con.cells t.con)[j]? = some y->(Tre.cells t)[0+j]? = some y:=by grind[Tre.cells]
theorem rd_ {l:List Con} {b:Con} (h:(l.find? λc=>decide (c.kind=2))=some b):Con.meetF l=(b,0):=by unfold Con.meetF;rw[h]
theorem rc_ {l:List Con} (h:(l.find? λc=>decide (c.kind=2))=none) (d:l.length=0):Con.meetF l=(.mk 1 [] 0 0 none 0 [],0):=by
  grind[Con.meetF]
theorem rb_ {l:List Con} {x:Con} (h:(l.find? λc=>decide (c.kind=2))=none) (e:l.length=1) (d:l[0]? = some x):Con.meetF l=(x,0):=by
  unfold Con.meetF;rw[h]
  match l,e,d with
  | [y],_,d=>grind
theorem re_ {l:List Con} (h:(l.find? λc=>decide (c.kind=2))=none) (e:l.length≠0) (d:l.length≠1) (k:8<l.length):Con.meetF l=(Con.zeroC,2):=by
  unfold Con.meetF;grind
theorem rf_ {l:List Con} (h:(l.find? λc=>decide (c.kind=2))=none) (e:l.length≠0) (d:l.length≠1) (k:¬ 8<l.length):Con.meetF l=(.mk 5 [] 0 0 none 0 l,0):=by
  unfold Con.meetF;grind
theorem hw_:Elt prog 26 28 5 64:=gn_ underlying26 (z:=.agg #[i4_ 0,str [],i4_ 0,i4_ 0,.slice none 0 0]) zam_ rfl zaj_
theorem Con.cells_one (c:Con):c.cells.all Value.oneCell'=true:=rfl
def et_ (l:List Con):Fct:=⟨λv=>∀ c∈l,c.mem v,λv v' hl h c hc=>c.memF.mono v v' hl (h c hc)⟩
theorem ig_ {S d:List Tre} {v:Vw} (h:(dA_ d).p v) (e:S.Perm d):(dA_ S).p v:=λt k=>h t (e.mem_iff.1 k)
theorem oX_ {S:List Tre} {v:Vw} (h:(dA_ S).p v):(dA_ (cpL qT S)).p v:=λt d=>h t (sE_ d)
theorem xm_ {a b:List Tre} {v:Vw} (h:(dA_ a).p v) (k:(dA_ b).p v):(dA_ (a++b)).p v:=λt d=>(yaj_.1 d).elim (h t) (k t)
theorem yz_ {l:List Tre} {v:Vw} (h:(dA_ l).p v):(et_ (l.map Tre.con)).p v:=λc e=>by
  obtain⟨t,d,rfl⟩:=yaM_.1 e;exact ((Tre.mem_iff t v).1 (h t d)).1
theorem tdR_sz {p q:Con} {e:Int} (h:TdR p (q,e)) (d:e=0):q.sz<=p.sz/\q.ok:=by
  obtain⟨k,o⟩:=h.2 d
  grind[Con.sz_core,Con.tdy_sz]
theorem yp_ {q:Con} (h:q.kind=1):(([]:List Tre).map Tre.con).map Con.core=(Con.flat1 q).map Con.core:=by grind[Con.flat1]
theorem yr_ {q:Con} {us:List Tre} (h:q.kind=5) (d:us.map Tre.con=q.parts):(us.map Tre.con).map Con.core=(Con.flat1 q).map Con.core:=by grind[Con.flat1]
theorem yq_ {q:Con} {t:Tre} (d:¬ q.kind=1) (e:¬ q.kind=5) (h:t.con=q):([t].map Tre.con).map Con.core=(Con.flat1 q).map Con.core:=by grind[Con.flat1]
theorem uI_ {c p q:Con} {e:Int} {ad:Ao} (k:c.ok) (h:c.tdy=if p.tdy.2≠0\/p.tdy.1.kind=2 then p.tdy else (Con.mk 6 c.name 0 0 none 0 [p.tdy.1],0)) (x:TdR p (q,e)) (A:e=0) (C:q.kind≠2):TdR c (.mk 6 c.name 0 0 ad 1 [q],0):=by
 obtain⟨o,d⟩:=x;dsimp only at o d;obtain⟨u,v⟩:=d A;have y:=Con.core_kind u;rw[yam_ zap_]at h;unfold TdR;rw[h];refine⟨rfl,λ_=>⟨?_,?_⟩⟩
 .grind[Con.core_eq,Con.kind,Con.name,Con.lo,Con.hi,Con.parts]
 exact⟨by decide,by decide,Con.ok_name k,by decide,by decide,by decide,by decide,by simp,by simp,Con.oks_iff.2 λp B=>by grind⟩
theorem lT_ {c:Con} (h:c.check=0) (e:c.kind=6):c.parts.length=1:=by
  have f:=Con.fields (Con.check_zero h).1;have d:=f.le;have k:=f.mo
  grind[nd,dC_]
theorem Ce_ (ps:List Con) (O:Ao) (Y:Nat) (hsz:Con.sz.szs ps<=64) (hT:(∀ p∈ps,Tri prog 54 #[Con.val p] [] [Con.memF p] (λy:{y:Con×Int // TdR p y}=>.tuple #[Con.val y.1.1,i4_ y.1.2]) (λ_=>[]) (λy=>[Con.memF y.1.1]))):Tri prog 117 #[.slice O ps.length Y] [] [O_ O (ps.flatMap Con.cells),et_ ps] (λy:{y:Con×Int // MtR ps y}=>.tuple #[Con.val y.1.1,i4_ y.1.2]) (λ_=>[]) (λy=>[Con.memF y.1.1]):=by
 refine l_ func117 rfl rfl ntmps117 rfl λv_1=>?_;have hpl:=szs_len ps;refine Zz 2 ?_;refine K_ ay_ rfl λZ=>Zz 17 ?_
 let Pu:Nat×Obj:=(Z,.cells (Con.cells (Con.mk 0 [] 0 0 none 0 [])).toArray 28 (0,0));refine Y_ (ι:={y:Nat×List Tre×Value×Hp // y.1<=List.length ps/\McI ps y.1 y.2.1/\zR 171 7 Tre.cells y.2.2.1 y.2.1 y.2.2.2}) (λy=>[(2,zp_ Z 0),(3,i4_ 0),(4,y.1.2.2.1),(15,.slice O ps.length Y),(16,i4_ (List.length ps:Int)),(17,i4_ y.1.1)]) (λy=>(Pu::y.1.2.2.2)) (λy=>[dA_ y.1.2.1,O_ O (ps.flatMap Con.cells),et_ ps]) (λy=>ps.length - y.1.1) ⟨((0:Nat),([]:List Tre),(.slice none 0 0),[]),zak_,McI.nil,(av_.nil _ _)⟩ zl f_ (λv _ h=>by exact⟨(show (dA_ ([]:List Tre)).p v from λt A=>by simp at A),h.1,h.2.1,trivial⟩) ?_;rintro ⟨⟨i,ts,P,a9⟩,hi_i,hM,H⟩;dsimp only at hi_i hM H ⊢;have hMl:=hM.len;have hMs:=szs_take_le (l:=ps) i;refine Zi 2 (λb1=>?_) λb1=>?_
 .refine Zz 9 ?_
  refine d_ (BG_ H zaa_ (λt A=>(hM.good t A).1)) rfl ah_ zf rfl λ⟨⟨Hs_1,S⟩,hs_1,E,hs_3⟩=>?_;dsimp only;dsimp only at hs_1 E hs_3;refine Zz 2 ?_;refine s_ (cg_ bS_) (Zz 3 ?_);refine d_ (yA_ S P Hs_1 hs_1 (λt A=>(hM.good t (E.mem_iff.1 A)).1) (by have:=E.length_eq;omega)) rfl ah_ (λv _ h=>by exact⟨(ig_ h.1 E),trivial⟩) rfl λ⟨⟨a7,Hc_1⟩,K⟩=>?_;dsimp only;dsimp only at K;obtain⟨C,a6⟩:∃ C,C=cpL qT S:=⟨_,rfl⟩;rw[<-a6]at K;have d:=McI.done (by have e:=hM;rw[show i=ps.length from zaa_]at e;exact e) E hs_3;rw[<-a6]at d;have hDg:∀ t∈C,kG_ t/\t.con.ok:=λt A=>by rw[a6]at A;exact hM.good t (E.mem_iff.1 (sE_ A))
  have hDn:C.length<=64:=by have e:=CG_ (q:=qT) S;rw[<-a6]at e;have q_2:=E.length_eq;omega
  refine Zz 4 ?_;refine s_ (cg_ bS_) (aq_ (I_ K ah_ λa4 a1 hdad hcdad hmdad hzdad=>?_));subst hdad;refine Zz 7 ?_;refine Y_ (ι:={y:Nat // y<=List.length C/\(∀ t∈List.take y C,t.con.kind≠2)}) (λy=>[(2,zp_ Z 0),(3,i4_ 0),(4,.slice a4 C.length a1),(15,.slice O ps.length Y),(16,i4_ (List.length ps:Int)),(17,i4_ i),(59,.slice a4 C.length a1),(60,i4_ (List.length C:Int)),(61,i4_ y.1)]) (λy=>(Pu::[])) (λy=>[O_ a4 (C.flatMap Tre.cells),dA_ ts,O_ O (ps.flatMap Con.cells),et_ ps]) (λy=>C.length - y.1) ⟨(0:Nat),by simp,zak_⟩ zl f_ zh ?_;rintro ⟨k,hi_k,o⟩;dsimp only at hi_k o ⊢;refine Zi 2 (λQ=>?_) λQ=>?_
  .refine Zi 12 (λI=>?_) λI=>?_
   .refine Zi 8 (λa3=>?_) λa3=>?_
    .refine Zi 8 (λa2=>?_) λa2=>?_
     .refine Zz 9 ?_
      refine o_ 0 af_ rfl rfl rfl rfl rfl rfl (Zz 11 ?_);refine Y_ (ι:={y:Nat×Value×Hp // y.1<=List.length C/\zR 28 5 Con.cells y.2.1 (List.map Tre.con (C.take y.1)) y.2.2}) (λy=>[(2,zp_ Z 0),(3,i4_ 0),(4,.slice a4 C.length a1),(15,.slice O ps.length Y),(16,i4_ (List.length ps:Int)),(17,i4_ i),(59,.slice a4 C.length a1),(60,i4_ (List.length C:Int)),(61,i4_ k),(91,.slice a4 C.length a1),(92,i4_ (List.length C:Int)),(93,i4_ y.1.1)]) (λy=>((Z,.cells #[i4_ 5,str [],i4_ 0,i4_ 0,y.1.2.1] 28 (0,0))::y.1.2.2)) (λy=>[O_ a4 (C.flatMap Tre.cells),dA_ ts,O_ O (ps.flatMap Con.cells),et_ ps]) (λy=>C.length - y.1.1) ⟨((0:Nat),(.slice none 0 0),[]),by simp,(av_.nil _ _)⟩ zl f_ zh ?_;rintro ⟨⟨m,sv_P,H_P⟩,hi_m,X⟩;dsimp only at hi_m X ⊢;refine Zi 2 (λb2=>?_) λb2=>?_
      .refine Zz 9 ?_
       refine o_ 0 i_ rfl rfl rfl rfl rfl (by have q:=(en_ X).2;simp only[Value.cells,ycj_,ycH_,q,ych_];rfl) ?_;refine Zz 4 ?_;have hml:List.take m C=C:=yac_ zaa_;rw[hml]at X;refine I_ X ah_ λqad b5 hqad hcqad hmqad hzqad=>?_;subst hqad;have T:=rf_ (fq_ λc hc=>by obtain⟨t,A,rfl⟩:=yaM_.1 hc;exact o t (by rw[yac_ zaa_];exact A)) zaz_ zaz_ zaz_;rw[T]at d;exact cs_ ⟨((Con.mk 5 [] 0 0 qad b5 (C.map Tre.con)),0),⟨d.1,λ_=>⟨by rw[<-d.2,Con.core_eq,Con.core_eq];rfl,(by refine⟨by decide,by decide,by simp,by decide,by decide,by decide,by decide,hcqad,by rw[yaB_];omega,Con.oks_iff.2 λp hp=>?_⟩;obtain⟨t,A,rfl⟩:=yaM_.1 hp;exact (hDg t A).2)⟩⟩⟩ (λaa v L o=>br_ (us:=Con.cells (Con.mk 5 [] 0 0 qad b5 (C.map Tre.con))) 0 mE_ H_ i_ rfl rfl rfl rfl aa v L o) e_ (λv _ h=>by exact⟨(Con.mem_iff (Con.mk 5 [] 0 0 qad b5 (C.map Tre.con)) v).2 ⟨h.1,yz_ (show (dA_ C).p v from a6▸oX_ (ig_ h.2.2.1 E))⟩,trivial⟩)
      have F:m<C.length:=by omega
      obtain⟨B,G⟩:∃ R,C[m]? = some R:=⟨_,yaa_ F⟩;refine Zz 12 ?_;refine K_ df_ rfl λb_2=>o_ 0 bf_ rfl rfl rfl rfl rfl rfl (Zz 7 ?_)
      refine p_ z_ i_ ay_ rfl rfl rfl rfl rfl rfl λb_3=>?_;refine am_ (news:=List.flatMap Con.cells [(Tre.con B)]) hw_ X rfl rfl (g_ (g_ ah_)) rfl (aO_ 0 rfl) (λu hu=>aF_ Con.cells_one hu) zaL_ zaR_ rfl λsv_2 a0 b1=>?_;refine s_ yah_ ?_;have J:=zsa b1;refine Zz 1 ?_;refine dy_ 2 J dk_ rfl rfl rfl rfl (Zz 7 ?_);exact w_ ⟨(m+1,sv_2,a0),F,(by rw[take_snoc G,yaz_];exact J)⟩ zae_ zl (E_ (g_ (g_ f_)) (g_ ah_)) zh
     refine Zz 6 ?_;refine c_ (x_ ff_ rfl rfl) rfl (o_ 0 i_ rfl rfl rfl rfl rfl rfl (Zz 4 ?_));have T:=re_ (fq_ λc hc=>by obtain⟨t,A,rfl⟩:=yaM_.1 hc;exact o t (by rw[yac_ zaa_];exact A)) zaz_ zaz_ zaz_;rw[T]at d;exact cs_ ⟨(Con.zeroC,2),⟨d.1,λq=>by cases q⟩⟩ (λaa v L o=>br_ (us:=Con.cells Con.zeroC) 0 mE_ H_ i_ rfl rfl rfl rfl aa v L o) e_ (λv _ h=>by exact⟨(show Con.mem Con.zeroC v from ⟨.inl rfl,trivial⟩),trivial⟩)
    refine Zz 5 ?_;have F:0<C.length:=by omega
    obtain⟨B,G⟩:∃ R,C[0]? = some R:=⟨_,yaa_ F⟩;have M:B∈C:=yad_ G;refine Zz 4 ?_;refine c_ (ax_ (ad:=a4) (us:=Con.cells (Tre.con B)) H_ i_ rfl zf rfl (xo_ 0 (t_ Tre.cells_len G) (Tre.con_cells B))) rfl (o_ 0 i_ rfl rfl rfl rfl rfl rfl (Zz 4 ?_));have T:=rb_ (fq_ λc hc=>by obtain⟨t,A,rfl⟩:=yaM_.1 hc;exact o t (by rw[yac_ zaa_];exact A)) zaz_ (x:=Tre.con B) (by rw[yaD_,G];rfl);rw[T]at d;exact cs_ ⟨((Tre.con B),0),⟨d.1,λ_=>⟨d.2,(hDg B M).2⟩⟩⟩ (λaa v L o=>br_ (us:=Con.cells (Tre.con B)) 0 mE_ H_ i_ rfl rfl rfl rfl aa v L o) e_ (λv _ h=>by exact⟨((Tre.mem_iff B v).1 ((show (dA_ C).p v from a6▸oX_ (ig_ h.2.1 E)) B M)).1,trivial⟩)
   refine Zz 6 ?_;refine c_ (x_ ff_ rfl rfl) rfl (o_ 0 i_ rfl rfl rfl rfl rfl rfl (Zz 4 ?_));have T:=rc_ (fq_ λc hc=>by obtain⟨t,A,rfl⟩:=yaM_.1 hc;exact o t (by rw[yac_ zaa_];exact A)) zaz_;rw[T]at d;exact cs_ ⟨((Con.mk 1 [] 0 0 none 0 []),0),⟨d.1,λ_=>⟨d.2,by simp[Con.ok,Con.ok.oks]⟩⟩⟩ (λaa v L o=>br_ (us:=Con.cells (Con.mk 1 [] 0 0 none 0 [])) 0 mE_ H_ i_ rfl rfl rfl rfl aa v L o) e_ (λv _ h=>by exact⟨(show Con.mem (Con.mk 1 [] 0 0 none 0 []) v from ⟨.inl rfl,trivial⟩),trivial⟩)
  have F:k<C.length:=by omega
  obtain⟨B,G⟩:∃ R,C[k]? = some R:=⟨_,yaa_ F⟩;have M:B∈C:=yad_ G;refine Zz 12 ?_;refine K_ df_ rfl λb_2=>o_ 0 bf_ rfl rfl rfl rfl rfl rfl (Zi 7 (λI=>?_) λI=>?_)
  .refine Zz 10 ?_
   exact w_ ⟨k+1,F,(λt A=>by rw[take_snoc G,yaj_,yal_]at A;rcases A with A|rfl;exact o t A;exact I)⟩ zae_ zl (g_ f_) zh
  refine Zz 7 ?_;refine o_ 1 i_ rfl rfl rfl rfl rfl rfl (Zz 4 ?_);have T:=rd_ (wM_ (k:=k) (λc hc=>by rw[<-List.map_take]at hc;obtain⟨t,A,rfl⟩:=yaM_.1 hc;exact o t A) (by rw[yaD_,G];rfl) I);rw[T]at d;exact cs_ ⟨((Tre.con B),0),⟨d.1,λ_=>⟨d.2,(hDg B M).2⟩⟩⟩ (λaa v L o=>br_ (us:=Con.cells (Tre.con B)) 1 mE_ H_ i_ rfl rfl rfl rfl aa v L o) e_ (λv _ h=>by exact⟨((Tre.mem_iff B v).1 ((show (dA_ C).p v from a6▸oX_ (ig_ h.2.1 E)) B M)).1,trivial⟩)
 have V:i<ps.length:=by omega
 obtain⟨p_1,W⟩:∃ R,ps[i]? = some R:=⟨_,yaa_ V⟩;have a5:p_1∈ps:=yad_ W;have hps_1:=Con.sz_mem a5;refine Zz 12 ?_;refine K_ ay_ rfl λb_2=>o_ 0 i_ rfl rfl rfl rfl rfl rfl (Zz 5 ?_)
 refine d_ (hT p_1 a5) rfl e_ (λv _ h=>by exact⟨(h.2.2.1 p_1 a5),trivial⟩) rfl λ⟨⟨e,e_2⟩,J⟩=>?_;dsimp only;try dsimp only at J
 refine Zz 3 ?_;refine K_ ay_ rfl λb_3=>o_ 0 i_ rfl rfl rfl rfl rfl rfl (Zi 7 (λQ=>?_) λQ=>?_)
 .have a8:e_2=0:=by simpa using Q
  have hqz:=tdR_sz J a8;refine Zi 14 (λI=>?_) λI=>?_
  .refine Zi 6 (λa3=>?_) λa3=>?_
   .refine Zz 7 ?_
    refine d_ (su_ _ e (yab_ _) zaa_) rfl e_ zf rfl λ⟨b4,b0,hgw⟩=>?_;dsimp only;refine p_ bq_ bf_ df_ rfl rfl rfl rfl rfl rfl λb_4=>?_;refine am_ (news:=List.flatMap Tre.cells [b4]) sB_ H rfl rfl (g_ (g_ (g_ ah_))) rfl (aO_ 0 rfl) (λu hu=>aF_ Tre.cells_one hu) zaL_ zaR_ rfl λa7 a0 a2=>?_;refine s_ yah_ ?_;have b3:=zsa a2;refine Zz 8 ?_;exact w_ ⟨(i+1,(ts++[b4]),a7,a0),V,(hM.add W J a8 (yq_ I a3 b0) (λt A=>by rw[yal_]at A;subst A;rw[kG_,b0];exact⟨⟨hgw,by omega⟩,hqz.2⟩)),b3⟩ zae_ zl (E_ (g_ (g_ (g_ f_))) (g_ (g_ ah_))) (λv _ h=>by exact⟨kT_ h.2.2.1 h.1,h.2.2.2.1,h.2.2.2.2.1,trivial⟩)
   refine Zz 13 ?_;have hw_1:av_ 171 7 P (List.length (ts++([]:List Tre))) (List.flatMap Tre.cells (ts++([]:List Tre))) a9:=by have q:=H;rw[yas_];exact q
   refine Y_ (ι:={y:Nat×List Tre×Value×Hp // y.1<=List.length e.parts/\List.map Tre.con y.2.1=List.take y.1 e.parts/\(∀ t∈y.2.1,kG_ t/\t.con.ok)/\zR 171 7 Tre.cells y.2.2.1 (ts++y.2.1) y.2.2.2}) (λy=>[(2,zp_ Z 0),(3,i4_ 0),(4,y.1.2.2.1),(15,.slice O ps.length Y),(16,i4_ (List.length ps:Int)),(17,i4_ i),(42,.slice e.ad e.parts.length e.cap),(43,i4_ (List.length e.parts:Int)),(44,i4_ y.1.1)]) (λy=>((b_3,.cells (Con.cells e).toArray 28 (0,0))::((b_2,.cells (Con.cells p_1).toArray 28 (0,0))::(Pu::y.1.2.2.2)))) (λy=>[dA_ y.1.2.1,dA_ ts,O_ O (ps.flatMap Con.cells),et_ ps,Con.memF e]) (λy=>e.parts.length - y.1.1) ⟨((0:Nat),([]:List Tre),P,a9),zak_,zak_,zak_,hw_1⟩ zl zp (λv _ h=>by exact⟨(show (dA_ ([]:List Tre)).p v from λt A=>by simp at A),h.2.1,h.2.2.1,h.2.2.2.1,h.1,trivial⟩) ?_;rintro ⟨⟨j,us,P,a9⟩,hj,hus,hug,H⟩;dsimp only at hj hus hug H ⊢;have hql:=Con.parts_lt e;have hul:=yag_ List.length hus;rw[yaB_,yat_]at hul;refine Zi 2 (λa2=>?_) λa2=>?_
   .refine Zz 11 ?_
    exact w_ ⟨(i+1,(ts++us),P,a9),V,(hM.add W J a8 (yr_ a3 (by rw[hus,yac_ zaa_])) hug),H⟩ zae_ zl zp (λv _ h=>by exact⟨xm_ h.2.1 h.1,h.2.2.1,h.2.2.2.1,trivial⟩)
   have b6:j<e.parts.length:=by omega
   obtain⟨c_1,K⟩:∃ R,e.parts[j]? = some R:=⟨_,yaa_ b6⟩;have U:c_1∈e.parts:=yad_ K;refine Zz 10 ?_;refine c_ (J_ z_ i_ rfl rfl (λv _ h=>az_ (n:=5) Con.cells_len zaj_ (by exact ((Con.mem_iff e v).1 h.2.2.2.2.1).1) K) zaa_ zah_) rfl ?_;refine c_ (ax_ (ad:=e.ad) (us:=Con.cells c_1) H_ i_ rfl (λv _ h=>by exact ((Con.mem_iff e v).1 h.2.2.2.2.1).1) (Con.cells_len _) (t_ Con.cells_len K)) rfl (K_ ay_ rfl λb_4=>o_ 0 i_ rfl rfl rfl rfl rfl rfl (Zz 5 ?_));refine d_ (su_ _ c_1 (yab_ _) (by have:=Con.sz_part U;omega)) rfl e_ (λv _ h=>by exact⟨(Con.mem_part (c:=e) h.2.2.2.2.1 U),trivial⟩) rfl λ⟨b4,b0,hgw⟩=>?_;dsimp only;refine p_ bq_ bf_ df_ rfl rfl rfl rfl rfl rfl λb_5=>?_;refine am_ (news:=List.flatMap Tre.cells [b4]) sB_ H rfl rfl (g_ (g_ (g_ (g_ ah_)))) rfl (aO_ 0 rfl) (λu hu=>aF_ Tre.cells_one hu) zaL_ zaR_ rfl λa7 a0 b2=>?_;refine s_ yah_ ?_;have b3:=zsa b2;refine Zz 8 ?_;exact w_ ⟨(j+1,(us++[b4]),a7,a0),b6,(by rw[take_snoc K,yaz_,hus];simp[b0]),(λt A=>by rcases yaj_.1 A with A|A;exact hug t A;rw[yal_]at A;subst A;rw[kG_,b0];exact⟨⟨hgw,by have:=Con.sz_part U;omega⟩,Con.ok_part hqz.2 U⟩),(by rw[<-yak_];exact b3)⟩ zae_ zl (E_ (g_ (g_ f_)) (E_ (g_ (g_ f_)) (E_ (g_ (g_ f_)) (g_ ah_)))) (λv _ h=>by exact⟨kT_ h.2.1 h.1,h.2.2.1,h.2.2.2.1,h.2.2.2.2.1,h.2.2.2.2.2.1,trivial⟩)
  refine Zz 11 ?_;exact w_ ⟨(i+1,(ts++[]),P,a9),V,(hM.add W J a8 (yp_ I) zak_),(by rw[yas_];exact H)⟩ zae_ zl (E_ (g_ (g_ f_)) (g_ ah_)) (λv _ h=>by exact⟨(show (dA_ (ts++[])).p v from by rw[yas_];exact h.2.1),h.2.2.1,h.2.2.2.1,trivial⟩)
 refine Zz 5 ?_;refine c_ (x_ ff_ rfl rfl) rfl (Zz 1 ?_);refine o_ 2 i_ rfl rfl rfl rfl rfl rfl (Zz 4 ?_);exact cs_ ⟨(Con.zeroC,e_2),⟨MtE_er hM W J Q,λq=>absurd q Q⟩⟩ (λaa v o L=>br_ (us:=Con.cells Con.zeroC) 2 mE_ H_ i_ rfl rfl rfl rfl aa v o L) e_ (λv _ h=>by exact⟨(show Con.mem Con.zeroC v from ⟨.inl rfl,trivial⟩),trivial⟩)
theorem mS_ {G:Prop} (h:G:=by
 refine o_ 1 i_ rfl rfl rfl rfl rfl rfl (Zz 4 ?_);exact cs_ ⟨(A,x),(by rw[yax_ (by first|exact .inl (by rw[<-d.1];assumption)|(by_cases I:x=0<;>first|exact .inl (by rw[<-d.1];exact I)|exact .inr (by rw[<-Con.core_kind (d.2 I).1];assumption)))]at E;unfold TdR;rw[E];exact d)⟩ (λG v u o=>br_ (us:=Con.cells A) 1 results54 H_ i_ rfl rfl rfl rfl G v u o) e_ zf):G:=h
theorem Bs_ (c:Con) (M:c.ok) (R:c.check=0) (T:(∀ p∈c.parts,Tri prog 54 #[Con.val p] [] [Con.memF p] (λy:{y:Con×Int // TdR p y}=>.tuple #[Con.val y.1.1,i4_ y.1.2]) (λ_=>[]) (λy=>[Con.memF y.1.1]))) (Q:c.kind=5->Tri prog 117 #[.slice c.ad c.parts.length c.cap] [] [O_ c.ad (c.parts.flatMap Con.cells),et_ c.parts] (λy:{y:Con×Int // MtR c.parts y}=>.tuple #[Con.val y.1.1,i4_ y.1.2]) (λ_=>[]) (λy=>[Con.memF y.1.1])):Tri prog 54 #[Con.val c] [] [Con.memF c] (λy:{y:Con×Int // TdR c y}=>.tuple #[Con.val y.1.1,i4_ y.1.2]) (λ_=>[]) (λy=>[Con.memF y.1.1]):=by
 refine l_ func54 rfl rfl ntmps54 rfl λU=>?_;refine Zz 2 ?_;refine Q_ rfl rfl λV=>K_ ay_ rfl λS=>Zi 13 (λB=>?_) λB=>?_
 .refine Zi 6 (λk=>?_) λk=>?_
  .refine Zz 9 ?_
   refine o_ 0 i_ rfl rfl rfl rfl rfl rfl (Zz 4 ?_);exact cs_ ⟨(c,0),(by unfold TdR;rw[Con.tdy_self k B];exact⟨rfl,λ_=>⟨rfl,M⟩⟩)⟩ (λG v u o=>br_ (us:=Con.cells c) 0 results54 H_ i_ rfl rfl rfl rfl G v u o) e_ zf
  refine Zz 8 ?_;refine d_ (Q k) rfl e_ (λv _ h=>by exact⟨((Con.mem_iff c v).1 h.1).1,((Con.mem_iff c v).1 h.1).2,trivial⟩) rfl λ⟨⟨F,x⟩,d⟩=>?_;dsimp only;try dsimp only at d
  refine Zz 2 ?_;refine o_ 0 i_ rfl rfl rfl rfl rfl rfl (Zz 4 ?_);exact cs_ ⟨(F,x),(by unfold TdR;rw[Con.tdy_and k];exact d)⟩ (λG v u o=>br_ (us:=Con.cells F) 0 results54 H_ i_ rfl rfl rfl rfl G v u o) e_ zf
 have L:=lT_ R B;have J:0<c.parts.length:=by omega
 obtain⟨H,e⟩:∃ x,c.parts[0]? = some x:=⟨_,yaa_ J⟩;have C:H∈c.parts:=yad_ e;have P:Con.parts c=[H]:=by have F:=ybb_.1 L;obtain⟨z,I⟩:=F;rw[I]at e;simp at e;rw[I,e]
 have E:=Con.tdy_some B P;refine Zz 8 ?_;refine c_ (J_ z_ i_ rfl rfl (λv _ h=>az_ (n:=5) Con.cells_len zaj_ zas_ e) zaa_ zah_) rfl ?_;refine c_ (ax_ (ad:=c.ad) (us:=Con.cells H) H_ i_ rfl (λv _ h=>by exact ((Con.mem_iff c v).1 h.1).1) (Con.cells_len _) (t_ Con.cells_len e)) rfl (d_ (T H C) rfl e_ (λv _ h=>by exact⟨(Con.mem_part (c:=c) h.1 C),trivial⟩) rfl λ⟨⟨A,x⟩,d⟩=>?_);dsimp only;try dsimp only at d
 refine Zz 3 ?_;refine K_ ay_ rfl λW=>o_ 0 i_ rfl rfl rfl rfl rfl rfl (Zi 7 (λk=>?_) λk=>?_)
 .refine Zi 6 (λO=>?_) λO=>?_
  .refine Zz 11 ?_
   refine p_ z_ i_ ay_ rfl rfl rfl rfl rfl rfl λK=>?_;refine R_ (List.flatMap Con.cells [A]) f_ rfl ?_;refine c_ (x_ ff_ rfl rfl) rfl (o_ 1 i_ rfl rfl rfl rfl rfl rfl (Zz 4 ?_));exact cs_ ⟨((Con.mk 6 c.name 0 0 (some ⟨K,0,none⟩) 1 [A]),0),(uI_ M E d (by first|assumption|simp_all) (by first|assumption|simp_all))⟩ (λG v u o=>br_ (us:=Con.cells (Con.mk 6 c.name 0 0 (some ⟨K,0,none⟩) 1 [A])) 1 results54 H_ i_ rfl rfl rfl rfl G v u o) e_ (λv _ h=>by exact⟨⟨h.1,⟨h.2.1,trivial⟩⟩,trivial⟩)
  refine Zz 8 ?_;exact mS_
 refine Zz 12 ?_;exact mS_
theorem uS_ (c:Con) (d:c.ok) (k:c.check=0):Tri prog 54 #[c.val] [] [c.memF] (λy:{y:Con×Int // TdR c y}=>.tuple #[Con.val y.1.1,i4_ y.1.2]) (λ_=>[]) (λy=>[Con.memF y.1.1]):=by
  have key:∀ n (c:Con),c.sz<=n->c.ok->c.check=0->Tri prog 54 #[c.val] [] [c.memF] (λy:{y:Con×Int // TdR c y}=>.tuple #[Con.val y.1.1,i4_ y.1.2]) (λ_=>[]) (λy=>[Con.memF y.1.1]):=by
    intro n
    induction n with
    | zero=>grind[Con.sz_pos]
    | succ n ih =>
      intro c h d k;have e:∀ p∈c.parts,Tri prog 54 #[Con.val p] [] [Con.memF p] (λy:{y:Con×Int // TdR p y}=>.tuple #[Con.val y.1.1,i4_ y.1.2]) (λ_=>[]) (λy=>[Con.memF y.1.1]):=λp e=>ih p (by have:=Con.sz_part e;omega) (Con.ok_part d e) (Con.check_part k e)
      refine Bs_ c d k e λ_=>Ce_ c.parts c.ad c.cap ?_ e
      have:=(Con.check_zero k).2
      grind[Con.sz_eq]
  exact key c.sz c (yab_ _) d k
end Go.Proofs.YtbffkokbdeppaaaGreatDoor
