/-
  Lemmas for the law ModuleGoal (no condition).
-/
import Derived.Test.YtbffkokbdeppaaaGreatDoorQModuleGoal15
set_option linter.unusedVariables false
set_option linter.unusedSimpArgs false
set_option linter.unusedSectionVars false
set_option maxHeartbeats 1000000
namespace Go.Proofs.YtbffkokbdeppaaaGreatDoor
open Go Go.Sx Go.Proofs Tryz
attribute [local irreducible] Code.wp wpList wpAnyH
open Go.Vs
theorem zA_ (w:World):(zeroValue 367).run prog w=.ok (.agg (List.replicate 4225 (.bool false)).toArray) w:=by
  rw[zeroValue367];exact yae_ (λz=>Result.ok z w) zk
theorem ve_ {N:Nf} {k:Vw} {h:Hp} {R:Exit->Act->World->Prop} {K:List Kt} {fr:Fr} {H:Hp} {Γ:List Fct} {e:Array Oper} {l:List Oper} {d:Nat} {ty:TypeId} {ps:String} {m:Array Edge} (v:Nat.blt d N.n=true)
    (hk:∀ b,Ops prog R N k h e l K ((d,zp_ b 0)::fr) ((b,.cells (List.replicate 4225 (.bool false)).toArray 367 (0,0))::H) Γ):Ops prog R N k h e (⟨some d,.alloc 367,ty,ps,m,none⟩::l) K fr H Γ :=
  C_ zA_ v hk
theorem nV_ {y:Itm} {T Q:List Itm} (h:¬ y∈T):qe_ y T Q=Q++[y]:=yag_ h
theorem lE_ {y:Itm} {T Q:List Itm} (h:y∈T):qe_ y T Q=Q:=yaq_ h
theorem popRow {P:Program} {e:TypeId} {sz n:Nat} {sv:Value} {xs:List Value} {Hr:Hp} (k:at_ e sz sv (n+1) xs Hr):∃ sv',at_ e sz sv' n (xs.take (n*sz)) Hr/\
    ∀ {N:Nf} {fr:Fr} {H:Hp} {Γ:List Fct} {ty t:TypeId} {x y:Operand},(∀ w,(underlying t).run P w=.ok (.slice e) w)->(∀ w,(sizeOf e).run P w=.ok sz w)->Fr.ev fr x=some sv->Fr.ev fr y=some (i4_ n)->Yld P N fr H Γ (.slice t x none (some y) none) ty sv':=by
  obtain⟨hl,⟨_,A,_⟩|⟨g,cap,cur,rfl,rfl,C,hm,B,d⟩⟩:=k
  . omega
  . refine⟨.slice (some ⟨g,0,none⟩) n cap,⟨?_,.inr ⟨g,cap,cur,rfl,rfl,by omega,hm,B,?_⟩⟩,λm v d h=>?_⟩
    . rw[yaI_,hl,ybE_];omega
    . rw[<-d,ycM_,ybA_ (by rw[ybE_];omega)]
    . refine ai_ (cD_ (i:=0) (j:=n) (kl:=.i64) (kh:=.i64) m v d rfl h (ybm_ _) zaa_) ?_
      unfold sad;rw[yag_ zaa_];simp[ck_]
theorem fE_.none {m d:Nat} {ks:List (Str×Nat)} {T:List Itm} {H:Hp} (h:fE_ m d ks T H) {k:Str} (hk:dc_ ks k=none):∀ z∈T,z.r≠k:=λz v e=>by
  obtain⟨_,_,_,hE⟩:=h;exact eR_ hk (e▸hE.all z v)
theorem At_ {R:List Rul} {k:Str} {y:Rul}:y∈lat (List.map (λx=>(Rul.f x,x)) R) k↔y∈R/\y.f=k:=by
 rw[cy_,yan_];constructor
 .rintro ⟨z,d,e⟩
  obtain⟨rfl,rfl⟩:=Prod.mk.inj e;exact⟨d,rfl⟩
 rintro ⟨h,rfl⟩;exact⟨y,h,rfl⟩
theorem As_ {R:List Rul} {k:Str} {y:Rul}:y∈lat (List.map (λx=>(Rul.s x,x)) R) k↔y∈R/\y.s=k:=by
 rw[cy_,yan_];constructor
 .rintro ⟨z,d,e⟩
  obtain⟨rfl,rfl⟩:=Prod.mk.inj e;exact⟨d,rfl⟩
 rintro ⟨h,rfl⟩;exact⟨y,h,rfl⟩
structure SafI (U:List Str) (n:Nat) (T Q:List Itm):Prop where
  nd:T.Nodup
  qnd:Q.Nodup
  sub:∀ y∈Q,y∈T
  bd:∀ y∈T,y.In U n
theorem SafI.nil {U:List Str} {n:Nat}:SafI U n [] []:=⟨by simp,by simp,by simp,by simp⟩
theorem SafI.add {U:List Str} {n:Nat} {T Q:List Itm} {y:Itm} (h:SafI U n T Q) (v:y.In U n):SafI U n (fD_ y T) (qe_ y T Q):=by
 by_cases hm:y∈T
 .rw[eF_ hm,lE_ hm];exact h
 rw[gq_ hm,nV_ hm];refine⟨gq_ hm▸Dv_ h.nd,?_,λz d=>?_,λz d=>?_⟩
 .rw[ybe_];exact⟨h.qnd,by simp,λa m b k e=>by simp at k;subst k;subst e;exact hm (h.sub _ m)⟩
 .rw[yai_]at d ⊢;exact d.imp (h.sub z) id
 rw[yai_,yam_]at d;exact d.elim (h.bd z) λe=>e▸v
theorem SafI.pop {U:List Str} {n:Nat} {T Q:List Itm} {x:Itm} (h:SafI U n T (Q++[x])):SafI U n T Q/\x.In U n:=by
  have d:=h.qnd;rw[ybe_]at d;exact⟨⟨h.nd,d.1,λy e=>h.sub y zbw_,h.bd⟩,h.bd x (h.sub x zai_)⟩
theorem SafI.len {U:List Str} {n:Nat} {T Q:List Itm} (h:SafI U n T Q) (e:U.length<=400) (x:n<=64):T.length<=1690000/\Q.length<=1690000:=by
  have m:=yi_ h.nd h.bd;have d:(n+1)*(n+1)<=65*65:=Nat.mul_le_mul zaa_ zaa_;have v:U.length*((n+1)*(n+1))<=400*4225:=Nat.mul_le_mul e d;have k:=h.qnd.length_le_of_subset h.sub;omega
theorem SafI.mu {U:List Str} {n:Nat} {T Q:List Itm} {y:Itm} (h:SafI U n T Q) (e:y.In U n) (k:U.length<=400) (m:n<=64):muI 1690000 (fD_ y T) (qe_ y T Q)<=muI 1690000 T Q:=by
 by_cases hm:y∈T
 .rw[eF_ hm,lE_ hm];exact yad_ _
 have d:=((h.add e).len k m).1;rw[gq_ hm]at d ⊢;rw[nV_ hm];unfold muI;simp only[yaj_,yak_,yay_]at d ⊢;omega
theorem Cx_ {B:Nat} {T Q:List Itm} {x:Itm}:muI B T Q<muI B T (Q++[x]):=by unfold muI;simp only[yaj_,yak_,yay_];omega
def iU_ (ws:List Str) (R:List Rul) (LA:List (Str×Str)) (RF:List Str):List Str:=ws++(R.map Rul.r++(LA.map Prod.snd++RF))
theorem unvS_w {d:List Str} {R:List Rul} {LA:List (Str×Str)} {RF:List Str} {i:Nat} {r:Str} (h:d[i]? = some r):r∈iU_ d R LA RF:=yax_ _ (yab_ h)
theorem zj_ {d:List Str} {R:List Rul} {LA:List (Str×Str)} {RF:List Str} {y:Rul} (h:y∈R):y.r∈iU_ d R LA RF:=yaF_ _ (yax_ _ (yaZ_ h))
theorem zk_ {d:List Str} {R:List Rul} {LA:List (Str×Str)} {RF:List Str} {k s:Str} (h:s∈lat LA k):s∈iU_ d R LA RF:=yaF_ _ (yaF_ _ (yax_ _ (yan_.2 ⟨_,cy_.1 h,rfl⟩)))
theorem unvS_f {d:List Str} {R:List Rul} {LA:List (Str×Str)} {RF:List Str} {s:Str} (h:s∈RF):s∈iU_ d R LA RF:=yaF_ _ (yaF_ _ (yaF_ _ h))
theorem pS_ (r:Str) (i j:Nat) (hi:i<=64) (Y:j<=64) (U N O:Nat) (ks:List (Str×Nat)) (T Q:List Itm) (sv:Value) (Hx L:Hp) (H:fE_ 367 O ks T Hx) (M:zR 369 3 Itm.cells sv Q L) (X:Q.length<=100000000):Tri prog 330 #[str r,i4_ i,i4_ j,zp_ U 0,zp_ N 0] ((N,.cells #[sv] 365 (0,0))::(Hx++L)) [bk_ U (.cells #[.map (some O)] 321 (0,0))] (λ_:{y:List (Str×Nat)×Value×Hp×Hp // fE_ 367 O y.1 (fD_ (Itm.mk r i j) T) y.2.2.1/\zR 369 3 Itm.cells y.2.1 (qe_ (Itm.mk r i j) T Q) y.2.2.2/\∀ k b,dc_ ks k=some b->dc_ y.1 k=some b}=>.tuple #[]) (λy=>(N,.cells #[y.1.2.1] 365 (0,0))::(y.1.2.2.1++y.1.2.2.2)) (λ_=>[]):=by
 refine j_ func330 rfl rfl ntmps330 rfl λW=>?_;refine Zz 5 ?_;refine d_ (eP_ (k:=r) bu_ cK_ ez_ H rfl rfl zp) rfl (F_ (yW_ ov_ rfl rfl) rfl λP d=>Zz 2 ?_);cases P
 .replace d:=zdf d
  obtain⟨Z,F⟩:=ybT_.1 d;refine Zz 7 ?_;refine d_ (eP_ (k:=r) bu_ cK_ ez_ H rfl rfl zp) rfl (Zz 2 ?_);refine d_ (gF_ F rfl) rfl (d_ (gE_ (i:=i) ek_ jd_ rfl rfl zaa_) rfl (d_ (fp_ (j:=j) em_ bn_ rfl rfl zaa_) rfl (F_ (hA_ (k:=r) (i:=i) (j:=j) fm_ H F zaa_ zaa_ rfl zp) rfl λG e=>d_ (aK_ rfl) rfl (Zz 2 ?_))));cases G
  .replace e:=zdf e
   refine Zz 5 ?_;refine d_ (eP_ (k:=r) bu_ cK_ ez_ H rfl rfl zp) rfl (Zz 2 ?_);refine d_ (gF_ F rfl) rfl (d_ (gE_ (i:=i) ek_ jd_ rfl rfl zaa_) rfl (d_ (fp_ (j:=j) em_ bn_ rfl rfl zaa_) rfl (tr_ (k:=r) (i:=i) (j:=j) bn_ H F zaa_ zaa_ rfl rfl zp λA m=>Zz 2 ?_)));refine u_ (aW_ (g_ e_)) (Zz 5 ?_);refine d_ (y_ we_ rfl rfl) rfl (B_ el_ oL_ zeroValue369 rfl rfl rfl rfl rfl rfl λC=>?_);refine U_ (List.flatMap Itm.cells [(Itm.mk r i j)]) e_ rfl ?_;refine bK_ (news:=List.flatMap Itm.cells [(Itm.mk r i j)]) wL_ M rfl rfl (λq=>by cases q) zai_ zp (by rw[ch_ Itm.cells 3 Itm.cells_len];rfl) zf (λu S=>aF_ Itm.cells_one S) zal_ zaa_ rfl λB E d=>?_;have v:=zsa d;refine u_ (aW_ (g_ e_)) (bT_ 0 v sizeOf365 rfl rfl rfl rfl (Zz 2 ?_));exact cj_ results330 ⟨(ks,B,A,E),by exact m,by rw[nV_ zaf_];exact v,λ_ _ h=>h⟩ rfl zp zt
  replace e:=zdt e;refine Zz 3 ?_;exact cj_ results330 ⟨(ks,sv,Hx,L),by rw[eF_ zaf_];exact H,by rw[lE_ zaf_];exact M,λ_ _ h=>h⟩ rfl zp zt
 replace d:=zdt d;refine Zz 4 ?_;refine ve_ rfl λC=>Aa_ (k:=r) bu_ (.inr rfl) cK_ H d rfl rfl rfl (l_ e_ (c_ s_)) λA m=>?_;have x:dc_ (ks++[(r,C)]) r=some C:=sO_ d;refine Zz 2 ?_;refine u_ (aW_ (g_ e_)) (Zz 4 ?_);refine d_ (eP_ (k:=r) bu_ cK_ ez_ m rfl rfl zp) rfl (Zz 2 ?_);refine d_ (gF_ x rfl) rfl (d_ (gE_ (i:=i) ek_ jd_ rfl rfl zaa_) rfl (d_ (fp_ (j:=j) em_ bn_ rfl rfl zaa_) rfl (F_ (hA_ (k:=r) (i:=i) (j:=j) fm_ m x zaa_ zaa_ rfl zp) rfl λG e=>d_ (aK_ rfl) rfl (Zz 2 ?_))));cases G
 .replace e:=zdf e
  refine Zz 5 ?_;refine d_ (eP_ (k:=r) bu_ cK_ ez_ m rfl rfl zp) rfl (Zz 2 ?_);refine d_ (gF_ x rfl) rfl (d_ (gE_ (i:=i) ek_ jd_ rfl rfl zaa_) rfl (d_ (fp_ (j:=j) em_ bn_ rfl rfl zaa_) rfl (tr_ (k:=r) (i:=i) (j:=j) bn_ m x zaa_ zaa_ rfl rfl zp λI K=>Zz 2 ?_)));refine u_ (aW_ (g_ e_)) (Zz 5 ?_);refine d_ (y_ we_ rfl rfl) rfl (B_ el_ oL_ zeroValue369 rfl rfl rfl rfl rfl rfl λV=>?_);refine U_ (List.flatMap Itm.cells [(Itm.mk r i j)]) e_ rfl ?_;refine bK_ (news:=List.flatMap Itm.cells [(Itm.mk r i j)]) wL_ M rfl rfl (λq=>by cases q) zai_ zp (by rw[ch_ Itm.cells 3 Itm.cells_len];rfl) zf (λu S=>aF_ Itm.cells_one S) zal_ zaa_ rfl λB E J=>?_;have v:=zsa J;refine u_ (aW_ (g_ e_)) (bT_ 0 v sizeOf365 rfl rfl rfl rfl (Zz 2 ?_));exact cj_ results330 ⟨((ks++[(r,C)]),B,I,E),by exact K,by rw[nV_ zaf_];exact v,λk b h=>sP_ h⟩ rfl zp zt
 replace e:=zdt e;refine Zz 3 ?_;exact cj_ results330 ⟨((ks++[(r,C)]),sv,A,L),by rw[eF_ zaf_];exact m,by rw[lE_ zaf_];exact M,λk b h=>sP_ h⟩ rfl zp zt
theorem rA_ (l:List Ax) (ad:Ao) (cap:Nat) (hok:∀ x∈l,x.ok) (hC:∀ x∈l,x.check=0) (hll:l.length<=12) (H:List Str) (Y:Ao) (wcap:Nat) (hw:H.length<=64):Tri prog 281 #[.slice ad l.length cap,.slice Y H.length wcap] [] [bZ_ ad l,X_ Y (H.flatMap aa_),bE_] (λy:{y:Nat×List (Str×Nat)×List Itm×Hp // fE_ 367 y.1 y.2.1 y.2.2.1 y.2.2.2}=>.map (some y.1.1)) (λy=>y.1.2.2.2) (λ_=>[]):=by
 refine j_ func281 rfl rfl ntmps281 rfl λv_1=>?_;refine Zz 8 ?_;refine f_ (pX_ l ad cap hok hC zaa_) rfl i_ zf rfl λ⟨⟨R,LA,RF,J,F,E,HMA,HM_1,HM_2,sv_F,HFF⟩,hRl,hLl,hFl,hma,hm_1,hm_2,hrf⟩=>?_;dsimp only;simp only[yaD_,yap_,yas_];dsimp only at hRl hLl hFl hma hm_1 hm_2 hrf;have b0:(iU_ H R LA RF).length<=400:=by unfold iU_;simp only[yaj_,yaC_];omega
 refine jk_ bu_ hma s_ λX=>?_;refine jk_ bu_ hm_1 s_ λO=>?_;refine jk_ bu_ hm_2 s_ λM=>?_;refine C_ zeroValue363 rfl λK=>?_;refine p_ 0 zE_ rfl rfl rfl rfl rfl (by have q:=(fQ_ hrf).2;simp only[Value.cells,ycj_,ycy_,q,ycr_];rfl) ?_;refine Zz 3 ?_;refine bQ_ hrf E_ λfad fcap hfad hcfad hmfad hzfad=>?_;subst hfad;refine ad_ (bt_ rfl λI=>C_ zeroValue321 rfl λB=>p_ 0 sizeOf321 rfl rfl rfl rfl rfl rfl (Zz 4 ?_));refine C_ zeroValue365 rfl λA=>Zz 4 ?_
 refine d_ (bo_ rfl rfl) rfl (Zz 19 ?_);refine hK_ 1 rfl ?_;let Pu:Nat×Obj:=(K,.cells #[.map (some J),.map (some F),.map (some E),.slice fad RF.length fcap] 363 (0,0));refine J_ (ι:={y:Nat×List (Str×Nat)×List Itm×List Itm×Hp×Value×Hp // fE_ 367 I y.2.1 y.2.2.1 y.2.2.2.2.1/\y.1<=List.length H/\SafI (iU_ H R LA RF) H.length y.2.2.1 y.2.2.2.1/\zR 369 3 Itm.cells y.2.2.2.2.2.1 y.2.2.2.1 y.2.2.2.2.2.2}) (λy=>[(5,zp_ K 0),(6,zp_ B 0),(7,zp_ A 0),(8,.func (.func 330) #[] #[zp_ B 0,zp_ A 0]),(9,i4_ (List.length H:Int)),(32,.slice Y H.length wcap),(33,i4_ (List.length H:Int)),(34,i4_ y.1.1)]) (λy=>(Pu::((A,.cells #[y.1.2.2.2.2.2.1] 365 (0,0))::(y.1.2.2.2.2.1++y.1.2.2.2.2.2.2)))) (λy=>[bk_ B (.cells #[.map (some I)] 321 (0,0)),X_ fad (RF.flatMap aa_),mlF prog 9 str Rul.cells E (List.map (λx=>(Rul.s x,x)) R) M,mlF prog 9 str Rul.cells F (List.map (λx=>(Rul.f x,x)) R) O,mlF prog 9 str aa_ J LA X,bZ_ ad l,X_ Y (H.flatMap aa_),bE_]) (λy=>H.length - y.1.1) ⟨((0:Nat),[],[],([]:List Itm),[(I,.map #[] 0)],(.slice none 0 0),[]),(fE_.nil 367 I 0),by simp,SafI.nil,(at_.nil _ _)⟩ zl (l_ (c_ (c_ e_)) (l_ e_ e_)) zh ?_;rintro ⟨⟨i,ks_1,T_1,Q_1,HT_1,m,C⟩,hT_1,hi,hS_1,e⟩;dsimp only at hT_1 hi hS_1 e ⊢;refine Zi 2 (λhr_1=>?_) λhr_1=>?_
 .refine Zz 16 ?_
  refine J_ (ι:={y:Nat×List (Str×Nat)×List Itm×List Itm×Hp×Value×Hp // fE_ 367 I y.2.1 y.2.2.1 y.2.2.2.2.1/\y.1<=List.length RF/\SafI (iU_ H R LA RF) H.length y.2.2.1 y.2.2.2.1/\zR 369 3 Itm.cells y.2.2.2.2.2.1 y.2.2.2.1 y.2.2.2.2.2.2}) (λy=>[(5,zp_ K 0),(6,zp_ B 0),(7,zp_ A 0),(8,.func (.func 330) #[] #[zp_ B 0,zp_ A 0]),(9,i4_ (List.length H:Int)),(47,.slice fad RF.length fcap),(48,i4_ (List.length RF:Int)),(49,i4_ y.1.1)]) (λy=>(Pu::((A,.cells #[y.1.2.2.2.2.2.1] 365 (0,0))::(y.1.2.2.2.2.1++y.1.2.2.2.2.2.2)))) (λy=>[bk_ B (.cells #[.map (some I)] 321 (0,0)),X_ fad (RF.flatMap aa_),mlF prog 9 str Rul.cells E (List.map (λx=>(Rul.s x,x)) R) M,mlF prog 9 str Rul.cells F (List.map (λx=>(Rul.f x,x)) R) O,mlF prog 9 str aa_ J LA X,bZ_ ad l,X_ Y (H.flatMap aa_),bE_]) (λy=>RF.length - y.1.1) ⟨((0:Nat),ks_1,T_1,Q_1,HT_1,m,C),hT_1,by simp,hS_1,e⟩ zl zp zh ?_;rintro ⟨⟨k_1,ks_2,T_2,Q_2,HT_2,m,C⟩,hT_2,hk_1,hS_2,e⟩;dsimp only at hT_2 hk_1 hS_2 e ⊢;refine Zi 2 (λhr_2=>?_) λhr_2=>?_
  .refine Zz 8 ?_
   refine J_ (ι:={y:List (Str×Nat)×List Itm×List Itm×Hp×Value×Hp // fE_ 367 I y.1 y.2.1 y.2.2.2.1/\SafI (iU_ H R LA RF) H.length y.2.1 y.2.2.1/\zR 369 3 Itm.cells y.2.2.2.2.1 y.2.2.1 y.2.2.2.2.2}) (λy=>[(5,zp_ K 0),(6,zp_ B 0),(7,zp_ A 0),(8,.func (.func 330) #[] #[zp_ B 0,zp_ A 0]),(9,i4_ (List.length H:Int))]) (λy=>(Pu::((A,.cells #[y.1.2.2.2.2.1] 365 (0,0))::(y.1.2.2.2.1++y.1.2.2.2.2.2)))) (λy=>[bk_ B (.cells #[.map (some I)] 321 (0,0)),X_ fad (RF.flatMap aa_),mlF prog 9 str Rul.cells E (List.map (λx=>(Rul.s x,x)) R) M,mlF prog 9 str Rul.cells F (List.map (λx=>(Rul.f x,x)) R) O,mlF prog 9 str aa_ J LA X,bZ_ ad l,X_ Y (H.flatMap aa_),bE_]) (λy=>muI 1690000 y.1.2.1 y.1.2.2.1) ⟨(ks_2,T_2,Q_2,HT_2,m,C),hT_2,hS_2,e⟩ zl zp zh ?_;rintro ⟨⟨ksw,Tw,Qw,HTw,m,C⟩,hTw,hSw,e⟩;dsimp only at hTw hSw e ⊢;refine Zz 4 ?_;refine d_ (cm_ e el_ rfl) rfl ?_;refine Zi 0 (λhr_3=>?_) λhr_3=>?_
   .refine Zz 12 ?_
    exact ac_ results281 ⟨(I,ksw,Tw,HTw),hTw⟩ rfl zp zt
   obtain⟨Qp,d,rfl⟩:∃ Qp d,Qw=Qp++[d]:=by rcases List.eq_nil_or_concat Qw with h|⟨a,b,h⟩;subst h;simp at *;exact⟨a,b,by simpa using h⟩
   have hxl:List.length (Qp++[d])=Qp.length+1:=by simp
   have hx_1:(Qp++[d])[List.length Qp]? = some d:=by simp
   have hsm:=hSw.len b0 hw;obtain⟨hSp,hxI⟩:=hSw.pop;refine Zz 10 ?_;refine d_ (cm_ e el_ rfl) rfl (d_ (ai_ (aC_ rfl rfl rfl (bx_ zac_ zac_)) (show _=i4_ (List.length Qp:Int) from yae_ _ zac_)) rfl ?_);refine d_ (bH_ e el_ oL_ rfl rfl zaa_ zaa_) rfl (d_ (eq_ e zp isAgg369 oL_ rfl (Itm.cells_len _) zae_ (A_ Itm.cells_len hx_1)) rfl (C_ zeroValue369 rfl λa3=>p_ 0 oL_ rfl rfl rfl rfl rfl rfl (Zz 6 ?_)));refine d_ (cm_ e el_ rfl) rfl (d_ (ai_ (aC_ rfl rfl rfl (bx_ zac_ zac_)) (show _=i4_ (List.length Qp:Int) from yae_ _ zac_)) rfl ?_);obtain⟨sv_1,a6,hy_1⟩:=popRow (P:=prog) (n:=Qp.length) (by have q:=e;change at_ _ _ _ _ _ _ at q;rw[yaj_]at q;exact q);have hr_5:at_ 369 3 sv_1 Qp.length (Qp.flatMap Itm.cells) C:=by have q:=a6;rw[lm_ Itm.cells 3 Itm.cells_len,List.take_left]at q;exact q
   refine d_ (hy_1 el_ oL_ rfl rfl) rfl (bT_ 2 hr_5 sizeOf365 rfl rfl rfl rfl (Zz 9 ?_));refine d_ (bS_ (k:=(Itm.r d)) (adr:=X) bu_ bf_ br_ rfl rfl zf) rfl (Zz 5 ?_);have a2:d.i<=d.j/\d.j<=H.length:=hxI.2;have hlx_1:List.length (lat LA (Itm.r d))<=400:=by have q:=dv_ LA (Itm.r d);omega
   let Qu:Nat×Obj:=(a3,.cells #[str (Itm.r d),i4_ (Itm.i d:Int),i4_ (Itm.j d:Int)] 369 (0,0));refine J_ (ι:={y:Nat×List (Str×Nat)×List Itm×List Itm×Hp×Value×Hp // fE_ 367 I y.2.1 y.2.2.1 y.2.2.2.2.1/\y.1<=List.length (lat LA (Itm.r d))/\SafI (iU_ H R LA RF) H.length y.2.2.1 y.2.2.2.1/\muI 1690000 y.2.2.1 y.2.2.2.1<=muI 1690000 Tw Qp/\zR 369 3 Itm.cells y.2.2.2.2.2.1 y.2.2.2.1 y.2.2.2.2.2.2}) (λy=>[(5,zp_ K 0),(6,zp_ B 0),(7,zp_ A 0),(8,.func (.func 330) #[] #[zp_ B 0,zp_ A 0]),(9,i4_ (List.length H:Int)),(15,zp_ a3 0),(82,.slice (Prod.fst (X (Itm.r d))) (lat LA (Itm.r d)).length (Prod.snd (X (Itm.r d)))),(83,i4_ (List.length (lat LA (Itm.r d)):Int)),(84,i4_ y.1.1)]) (λy=>(Pu::(Qu::((A,.cells #[y.1.2.2.2.2.2.1] 365 (0,0))::(y.1.2.2.2.2.1++y.1.2.2.2.2.2.2))))) (λy=>[bk_ B (.cells #[.map (some I)] 321 (0,0)),X_ fad (RF.flatMap aa_),mlF prog 9 str Rul.cells E (List.map (λx=>(Rul.s x,x)) R) M,mlF prog 9 str Rul.cells F (List.map (λx=>(Rul.f x,x)) R) O,mlF prog 9 str aa_ J LA X,bZ_ ad l,X_ Y (H.flatMap aa_),bE_]) (λy=>List.length (lat LA (Itm.r d)) - y.1.1) ⟨((0:Nat),ksw,Tw,Qp,HTw,sv_1,C),hTw,by simp,hSp,yad_ _,hr_5⟩ zl (l_ (c_ e_) (l_ e_ (l_ e_ (x_ s_ Z_)))) zh ?_;rintro ⟨⟨k_2,b6,b4,Q_3,HT_3,m,C⟩,a1,hk_2,L,hM_1,e⟩;dsimp only at a1 hk_2 L hM_1 e ⊢;refine Zi 2 (λhr_6=>?_) λhr_6=>?_
   .refine Zz 13 ?_
    refine d_ (bS_ (k:=(Itm.r d)) (adr:=O) bu_ aG_ cd_ rfl rfl zf) rfl (Zz 5 ?_);have hlx_2:List.length (lat (List.map (λx=>(Rul.f x,x)) R) (Itm.r d))<=400:=by have q:=dv_ (List.map (λx=>(Rul.f x,x)) R) (Itm.r d);rw[yaC_]at q;omega
    refine J_ (ι:={y:Nat×List (Str×Nat)×List Itm×List Itm×Hp×Value×Hp // fE_ 367 I y.2.1 y.2.2.1 y.2.2.2.2.1/\y.1<=List.length (lat (List.map (λx=>(Rul.f x,x)) R) (Itm.r d))/\SafI (iU_ H R LA RF) H.length y.2.2.1 y.2.2.2.1/\muI 1690000 y.2.2.1 y.2.2.2.1<=muI 1690000 Tw Qp/\zR 369 3 Itm.cells y.2.2.2.2.2.1 y.2.2.2.1 y.2.2.2.2.2.2}) (λy=>[(5,zp_ K 0),(6,zp_ B 0),(7,zp_ A 0),(8,.func (.func 330) #[] #[zp_ B 0,zp_ A 0]),(9,i4_ (List.length H:Int)),(15,zp_ a3 0),(100,.slice (Prod.fst (O (Itm.r d))) (lat (List.map (λx=>(Rul.f x,x)) R) (Itm.r d)).length (Prod.snd (O (Itm.r d)))),(101,i4_ (List.length (lat (List.map (λx=>(Rul.f x,x)) R) (Itm.r d)):Int)),(102,i4_ y.1.1)]) (λy=>(Pu::(Qu::((A,.cells #[y.1.2.2.2.2.2.1] 365 (0,0))::(y.1.2.2.2.2.1++y.1.2.2.2.2.2.2))))) (λy=>[bk_ B (.cells #[.map (some I)] 321 (0,0)),X_ fad (RF.flatMap aa_),mlF prog 9 str Rul.cells E (List.map (λx=>(Rul.s x,x)) R) M,mlF prog 9 str Rul.cells F (List.map (λx=>(Rul.f x,x)) R) O,mlF prog 9 str aa_ J LA X,bZ_ ad l,X_ Y (H.flatMap aa_),bE_]) (λy=>List.length (lat (List.map (λx=>(Rul.f x,x)) R) (Itm.r d)) - y.1.1) ⟨((0:Nat),b6,b4,Q_3,HT_3,m,C),a1,by simp,L,hM_1,e⟩ zl zp zh ?_;rintro ⟨⟨k_3,a5,T_4,Q_4,HT_4,m,C⟩,hT_4,hk_3,hS_4,hM_2,e⟩;dsimp only at hT_4 hk_3 hS_4 hM_2 e ⊢;refine Zi 2 (λhr_7=>?_) λhr_7=>?_
    .refine Zz 12 ?_
     refine d_ (bS_ (k:=(Itm.r d)) (adr:=M) bu_ aG_ cd_ rfl rfl zf) rfl (Zz 5 ?_);have hlx_3:List.length (lat (List.map (λx=>(Rul.s x,x)) R) (Itm.r d))<=400:=by have q:=dv_ (List.map (λx=>(Rul.s x,x)) R) (Itm.r d);rw[yaC_]at q;omega
     refine J_ (ι:={y:Nat×List (Str×Nat)×List Itm×List Itm×Hp×Value×Hp // fE_ 367 I y.2.1 y.2.2.1 y.2.2.2.2.1/\y.1<=List.length (lat (List.map (λx=>(Rul.s x,x)) R) (Itm.r d))/\SafI (iU_ H R LA RF) H.length y.2.2.1 y.2.2.2.1/\muI 1690000 y.2.2.1 y.2.2.2.1<=muI 1690000 Tw Qp/\zR 369 3 Itm.cells y.2.2.2.2.2.1 y.2.2.2.1 y.2.2.2.2.2.2}) (λy=>[(5,zp_ K 0),(6,zp_ B 0),(7,zp_ A 0),(8,.func (.func 330) #[] #[zp_ B 0,zp_ A 0]),(9,i4_ (List.length H:Int)),(15,zp_ a3 0),(139,.slice (Prod.fst (M (Itm.r d))) (lat (List.map (λx=>(Rul.s x,x)) R) (Itm.r d)).length (Prod.snd (M (Itm.r d)))),(140,i4_ (List.length (lat (List.map (λx=>(Rul.s x,x)) R) (Itm.r d)):Int)),(141,i4_ y.1.1)]) (λy=>(Pu::(Qu::((A,.cells #[y.1.2.2.2.2.2.1] 365 (0,0))::(y.1.2.2.2.2.1++y.1.2.2.2.2.2.2))))) (λy=>[bk_ B (.cells #[.map (some I)] 321 (0,0)),X_ fad (RF.flatMap aa_),mlF prog 9 str Rul.cells E (List.map (λx=>(Rul.s x,x)) R) M,mlF prog 9 str Rul.cells F (List.map (λx=>(Rul.f x,x)) R) O,mlF prog 9 str aa_ J LA X,bZ_ ad l,X_ Y (H.flatMap aa_),bE_]) (λy=>List.length (lat (List.map (λx=>(Rul.s x,x)) R) (Itm.r d)) - y.1.1) ⟨((0:Nat),a5,T_4,Q_4,HT_4,m,C),hT_4,by simp,hS_4,hM_2,e⟩ zl zp zh ?_;rintro ⟨⟨k_4,a7,T_5,Q_5,HT_5,m,C⟩,b5,hk_4,hS_5,hM_3,e⟩;dsimp only at b5 hk_4 hS_5 hM_3 e ⊢;refine Zi 2 (λhr_8=>?_) λhr_8=>?_
     .refine Zz 6 ?_
      exact w_ ⟨(a7,T_5,Q_5,HT_5,m,C),b5,hS_5,e⟩ (by dsimp only;exact Nat.lt_of_le_of_lt hM_3 Cx_) zl zp zh
     have N:k_4<List.length (lat (List.map (λx=>(Rul.s x,x)) R) (Itm.r d)):=by omega
     obtain⟨G,Z⟩:∃ b3,(lat (List.map (λx=>(Rul.s x,x)) R) (Itm.r d))[k_4]? = some b3:=⟨_,yaa_ N⟩;have hmy_1:G∈(lat (List.map (λx=>(Rul.s x,x)) R) (Itm.r d)):=yab_ Z;refine Zz 10 ?_;refine d_ (P_ bp_ bv_ rfl rfl (λv _ h=>av_ (n:=3) Rul.cells_len zae_ (by exact (bj_ h.2.2.1 (Itm.r d))) Z) zaa_ zag_) rfl ?_;refine d_ (ak_ (ad:=(Prod.fst (M (Itm.r d)))) (us:=Rul.cells G) isAgg373 bv_ rfl (λv _ h=>by exact (bj_ h.2.2.1 (Itm.r d))) (Rul.cells_len _) (A_ Rul.cells_len Z)) rfl (C_ bq_ rfl λb_6=>p_ 0 bv_ rfl rfl rfl rfl rfl rfl (Zz 7 ?_));refine d_ (eP_ (k:=(Rul.f G)) bu_ cK_ ez_ b5 rfl rfl (c_ (c_ (c_ (c_ s_))))) rfl (Zz 6 ?_);refine F_ (jC_ ov_ rfl rfl) rfl λr_1 hr_9=>Zz 2 ?_
     cases r_1
     .refine Zz 8 ?_
      exact w_ ⟨(k_4+1,a7,T_5,Q_5,HT_5,m,C),b5,N,hS_5,hM_3,e⟩ zab_ zl (l_ (c_ e_) (l_ (c_ e_) (l_ (c_ e_) (x_ (c_ s_) E_)))) zh
     obtain⟨bk_1,a0⟩:=ybT_.1 (show dc_ a7 (Rul.f G)≠none from by simpa using hr_9);refine Zz 7 ?_;have hry:G.r∈(iU_ H R LA RF):=zj_ (As_.1 hmy_1).1;refine J_ (ι:={y:Nat×List (Str×Nat)×List Itm×List Itm×Hp×Value×Hp // fE_ 367 I y.2.1 y.2.2.1 y.2.2.2.2.1/\SafI (iU_ H R LA RF) H.length y.2.2.1 y.2.2.2.1/\muI 1690000 y.2.2.1 y.2.2.2.1<=muI 1690000 Tw Qp/\(∀ kk bb,dc_ a7 kk=some bb->dc_ y.2.1 kk=some bb)/\y.1<=d.i+1/\zR 369 3 Itm.cells y.2.2.2.2.2.1 y.2.2.2.1 y.2.2.2.2.2.2}) (λy=>[(5,zp_ K 0),(6,zp_ B 0),(7,zp_ A 0),(8,.func (.func 330) #[] #[zp_ B 0,zp_ A 0]),(9,i4_ (List.length H:Int)),(15,zp_ a3 0),(139,.slice (Prod.fst (M (Itm.r d))) (lat (List.map (λx=>(Rul.s x,x)) R) (Itm.r d)).length (Prod.snd (M (Itm.r d)))),(140,i4_ (List.length (lat (List.map (λx=>(Rul.s x,x)) R) (Itm.r d)):Int)),(141,i4_ k_4),(23,zp_ b_6 0),(24,oz_ (dc_ a7 (Rul.f G))),(25,i4_ y.1.1)]) (λy=>(Pu::(Qu::((b_6,.cells #[str (Rul.f G),str (Rul.s G),str (Rul.r G)] 373 (0,0))::((A,.cells #[y.1.2.2.2.2.2.1] 365 (0,0))::(y.1.2.2.2.2.1++y.1.2.2.2.2.2.2)))))) (λy=>[bk_ B (.cells #[.map (some I)] 321 (0,0)),X_ fad (RF.flatMap aa_),mlF prog 9 str Rul.cells E (List.map (λx=>(Rul.s x,x)) R) M,mlF prog 9 str Rul.cells F (List.map (λx=>(Rul.f x,x)) R) O,mlF prog 9 str aa_ J LA X,bZ_ ad l,X_ Y (H.flatMap aa_),bE_]) (λy=>d.i+1 - y.1.1) ⟨((0:Nat),a7,T_5,Q_5,HT_5,m,C),b5,hS_5,hM_3,λ_ _ h=>h,by dsimp only;omega,e⟩ zl (l_ (c_ e_) (l_ (c_ e_) (l_ e_ (l_ e_ (x_ s_ Z_))))) zh ?_;rintro ⟨⟨eb,ksb,Tb,Qb,HTb,m,C⟩,hTb,hSb,hMb,hUb,heb,e⟩;dsimp only at hTb hSb hMb hUb heb e ⊢;refine Zi 6 (λhr_5=>?_) λhr_5=>?_
     .refine Zz 10 ?_
      exact w_ ⟨(k_4+1,ksb,Tb,Qb,HTb,m,C),hTb,N,hSb,hMb,e⟩ zab_ zl zp zh
     refine Zz 9 ?_;refine G_ 0 [0,1,2,3,4,5,6,7] zk zs (Zz 4 ?_);refine N_ rfl (gF_ a0 rfl) rfl (N_ rfl (gE_ (i:=eb) ek_ jd_ rfl rfl zaa_) rfl (N_ rfl (fp_ (j:=Itm.i d) em_ bn_ rfl rfl zaa_) rfl (fG_ rfl (hA_ (k:=(Rul.f G)) (i:=eb) (j:=Itm.i d) fm_ hTb (hUb _ _ a0) zaa_ zaa_ rfl zp) rfl λr_2 a6=>Zz 3 ?_)));cases r_2
     .replace a6:=zdf a6
      refine Zz 9 ?_;exact w_ ⟨(eb+1,ksb,Tb,Qb,HTb,m,C),hTb,hSb,hMb,hUb,by dsimp only;omega,e⟩ zab_ zl zp zh
     replace a6:=zdt a6;refine Zz 8 ?_;refine O_ (pS_ (Rul.r G) eb (Itm.j d) zbi_ zbi_ B A I ksb Tb Qb m HTb C hTb e (by have:=(hSb.len b0 hw).2;omega)) rfl rfl (l_ (c_ (c_ (c_ e_))) (x_ (c_ (c_ (c_ s_))) (c_ (c_ E_)))) zf rfl λ⟨⟨V,S,T,U⟩,W,Q,a4⟩=>?_;dsimp only;simp only[yaD_,yap_,yas_];refine Zz 2 ?_;refine u_ (S_ e_ (S_ (g_ (g_ e_)) (S_ (g_ (g_ e_)) (aW_ (g_ aJ_))))) (Zz 6 ?_);exact w_ ⟨(eb+1,V,(fD_ (Itm.mk (Rul.r G) eb (Itm.j d)) Tb),(qe_ (Itm.mk (Rul.r G) eb (Itm.j d)) Tb Qb),T,S,U),W,hSb.add ⟨hry,by dsimp only;omega,by dsimp only;omega⟩,ybn_ (hSb.mu ⟨hry,by dsimp only;omega,by dsimp only;omega⟩ b0 hw) hMb,λkk bb h=>a4 _ _ (hUb kk bb h),by dsimp only;omega,Q⟩ zab_ zl zp zh
    have N:k_3<List.length (lat (List.map (λx=>(Rul.f x,x)) R) (Itm.r d)):=by omega
    obtain⟨G,Z⟩:∃ b3,(lat (List.map (λx=>(Rul.f x,x)) R) (Itm.r d))[k_3]? = some b3:=⟨_,yaa_ N⟩;have hmy_1:G∈(lat (List.map (λx=>(Rul.f x,x)) R) (Itm.r d)):=yab_ Z;refine Zz 10 ?_;refine d_ (P_ bp_ bv_ rfl rfl (λv _ h=>av_ (n:=3) Rul.cells_len zae_ (by exact (bj_ h.2.2.2.1 (Itm.r d))) Z) zaa_ zag_) rfl ?_;refine d_ (ak_ (ad:=(Prod.fst (O (Itm.r d)))) (us:=Rul.cells G) isAgg373 bv_ rfl (λv _ h=>by exact (bj_ h.2.2.2.1 (Itm.r d))) (Rul.cells_len _) (A_ Rul.cells_len Z)) rfl (C_ bq_ rfl λb_6=>p_ 0 bv_ rfl rfl rfl rfl rfl rfl (Zz 7 ?_));refine d_ (eP_ (k:=(Rul.s G)) bu_ cK_ ez_ hT_4 rfl rfl (c_ (c_ (c_ (c_ s_))))) rfl (Zz 6 ?_);refine F_ (jC_ ov_ rfl rfl) rfl λr_1 hr_8=>Zz 2 ?_
    cases r_1
    .refine Zz 8 ?_
     exact w_ ⟨(k_3+1,a5,T_4,Q_4,HT_4,m,C),hT_4,N,hS_4,hM_2,e⟩ zab_ zl (l_ (c_ e_) (l_ (c_ e_) (l_ (c_ e_) (x_ (c_ s_) E_)))) zh
    obtain⟨bk_1,a0⟩:=ybT_.1 (show dc_ a5 (Rul.s G)≠none from by simpa using hr_8);refine Zz 9 ?_;have hry:G.r∈(iU_ H R LA RF):=zj_ (At_.1 hmy_1).1;refine J_ (ι:={y:Nat×List (Str×Nat)×List Itm×List Itm×Hp×Value×Hp // fE_ 367 I y.2.1 y.2.2.1 y.2.2.2.2.1/\SafI (iU_ H R LA RF) H.length y.2.2.1 y.2.2.2.1/\muI 1690000 y.2.2.1 y.2.2.2.1<=muI 1690000 Tw Qp/\(∀ kk bb,dc_ a5 kk=some bb->dc_ y.2.1 kk=some bb)/\(d.j<=y.1/\y.1<=H.length+1)/\zR 369 3 Itm.cells y.2.2.2.2.2.1 y.2.2.2.1 y.2.2.2.2.2.2}) (λy=>[(5,zp_ K 0),(6,zp_ B 0),(7,zp_ A 0),(8,.func (.func 330) #[] #[zp_ B 0,zp_ A 0]),(9,i4_ (List.length H:Int)),(15,zp_ a3 0),(100,.slice (Prod.fst (O (Itm.r d))) (lat (List.map (λx=>(Rul.f x,x)) R) (Itm.r d)).length (Prod.snd (O (Itm.r d)))),(101,i4_ (List.length (lat (List.map (λx=>(Rul.f x,x)) R) (Itm.r d)):Int)),(102,i4_ k_3),(19,zp_ b_6 0),(20,oz_ (dc_ a5 (Rul.s G))),(21,i4_ y.1.1)]) (λy=>(Pu::(Qu::((b_6,.cells #[str (Rul.f G),str (Rul.s G),str (Rul.r G)] 373 (0,0))::((A,.cells #[y.1.2.2.2.2.2.1] 365 (0,0))::(y.1.2.2.2.2.1++y.1.2.2.2.2.2.2)))))) (λy=>[bk_ B (.cells #[.map (some I)] 321 (0,0)),X_ fad (RF.flatMap aa_),mlF prog 9 str Rul.cells E (List.map (λx=>(Rul.s x,x)) R) M,mlF prog 9 str Rul.cells F (List.map (λx=>(Rul.f x,x)) R) O,mlF prog 9 str aa_ J LA X,bZ_ ad l,X_ Y (H.flatMap aa_),bE_]) (λy=>H.length+1 - y.1.1) ⟨((Itm.j d),a5,T_4,Q_4,HT_4,m,C),hT_4,hS_4,hM_2,λ_ _ h=>h,⟨yad_ _,by dsimp only;omega⟩,e⟩ zl (l_ (c_ e_) (l_ (c_ e_) (l_ e_ (l_ e_ (x_ s_ Z_))))) zh ?_;rintro ⟨⟨ea,ksa,Ta,Qa,HTa,m,C⟩,hTa,hSa,hMa,hUa,hea,e⟩;dsimp only at hTa hSa hMa hUa hea e ⊢;refine Zi 5 (λhr_9=>?_) λhr_9=>?_
    .refine Zz 10 ?_
     exact w_ ⟨(k_3+1,ksa,Ta,Qa,HTa,m,C),hTa,N,hSa,hMa,e⟩ zab_ zl zp zh
    refine Zz 9 ?_;refine G_ 0 [0,1,2,3,4,5,6,7] zk zs (Zz 4 ?_);refine N_ rfl (gF_ a0 rfl) rfl (N_ rfl (gE_ (i:=Itm.j d) ek_ jd_ rfl rfl zaa_) rfl (N_ rfl (fp_ (j:=ea) em_ bn_ rfl rfl zaa_) rfl (fG_ rfl (hA_ (k:=(Rul.s G)) (i:=Itm.j d) (j:=ea) fm_ hTa (hUa _ _ a0) zaa_ zaa_ rfl zp) rfl λr_2 a8=>Zz 3 ?_)));cases r_2
    .replace a8:=zdf a8
     refine Zz 9 ?_;exact w_ ⟨(ea+1,ksa,Ta,Qa,HTa,m,C),hTa,hSa,hMa,hUa,⟨by dsimp only;omega,by dsimp only;omega⟩,e⟩ zab_ zl zp zh
    replace a8:=zdt a8;refine Zz 8 ?_;refine O_ (pS_ (Rul.r G) (Itm.i d) ea zbi_ zbi_ B A I ksa Ta Qa m HTa C hTa e (by have:=(hSa.len b0 hw).2;omega)) rfl rfl (l_ (c_ (c_ (c_ e_))) (x_ (c_ (c_ (c_ s_))) (c_ (c_ E_)))) zf rfl λ⟨⟨V,S,T,U⟩,W,Q,a4⟩=>?_;dsimp only;simp only[yaD_,yap_,yas_];refine Zz 2 ?_;refine u_ (S_ e_ (S_ (g_ (g_ e_)) (S_ (g_ (g_ e_)) (aW_ (g_ aJ_))))) (Zz 6 ?_);exact w_ ⟨(ea+1,V,(fD_ (Itm.mk (Rul.r G) (Itm.i d) ea) Ta),(qe_ (Itm.mk (Rul.r G) (Itm.i d) ea) Ta Qa),T,S,U),W,hSa.add ⟨hry,by dsimp only;omega,by dsimp only;omega⟩,ybn_ (hSa.mu ⟨hry,by dsimp only;omega,by dsimp only;omega⟩ b0 hw) hMa,λkk bb h=>a4 _ _ (hUa kk bb h),⟨by dsimp only;omega,by dsimp only;omega⟩,Q⟩ zab_ zl zp zh
   have hlz_1:k_2<List.length (lat LA (Itm.r d)):=by omega
   obtain⟨z_1,hz_1⟩:∃ b3,(lat LA (Itm.r d))[k_2]? = some b3:=⟨_,yaa_ hlz_1⟩;have hmz_1:z_1∈(lat LA (Itm.r d)):=yab_ hz_1;refine Zz 10 ?_;refine d_ (P_ n_ D_ rfl rfl (λv _ h=>av_ (n:=1) an_ zae_ (by exact (bj_ h.2.2.2.2.1 (Itm.r d))) hz_1) zaa_ zag_) rfl ?_;refine d_ (bw_ (ad:=(Prod.fst (X (Itm.r d)))) W_ rfl (λv _ h=>by exact (bj_ h.2.2.2.2.1 (Itm.r d))) (A_ an_ hz_1 0 _ rfl)) rfl (Zz 10 ?_);refine O_ (pS_ z_1 (Itm.i d) (Itm.j d) zbi_ zbi_ B A I b6 b4 Q_3 m HT_3 C a1 e (by have:=(L.len b0 hw).2;omega)) rfl rfl (l_ (c_ (c_ e_)) (x_ (c_ (c_ s_)) (c_ E_))) zf rfl λ⟨⟨V,S,T,U⟩,W,Q,a4⟩=>?_;dsimp only;simp only[yaD_,yap_,yas_];refine Zz 2 ?_;refine u_ (S_ e_ (S_ (g_ (g_ e_)) (aW_ (g_ aJ_)))) (Zz 5 ?_);exact w_ ⟨(k_2+1,V,(fD_ (Itm.mk z_1 (Itm.i d) (Itm.j d)) b4),(qe_ (Itm.mk z_1 (Itm.i d) (Itm.j d)) b4 Q_3),T,S,U),W,hlz_1,L.add ⟨zk_ hmz_1,a2.1,a2.2⟩,ybn_ (L.mu ⟨zk_ hmz_1,a2.1,a2.2⟩ b0 hw) hM_1,Q⟩ zab_ zl zp zh
  have hlq_1:k_1<RF.length:=by omega
  obtain⟨q_1,hq_1⟩:∃ b3,RF[k_1]? = some b3:=⟨_,yaa_ hlq_1⟩;have hmq_1:q_1∈RF:=yab_ hq_1;refine Zz 21 ?_;refine J_ (ι:={y:Nat×List (Str×Nat)×List Itm×List Itm×Hp×Value×Hp // fE_ 367 I y.2.1 y.2.2.1 y.2.2.2.2.1/\y.1<=H.length+1/\SafI (iU_ H R LA RF) H.length y.2.2.1 y.2.2.2.1/\zR 369 3 Itm.cells y.2.2.2.2.2.1 y.2.2.2.1 y.2.2.2.2.2.2}) (λy=>[(5,zp_ K 0),(6,zp_ B 0),(7,zp_ A 0),(8,.func (.func 330) #[] #[zp_ B 0,zp_ A 0]),(9,i4_ (List.length H:Int)),(47,.slice fad RF.length fcap),(48,i4_ (List.length RF:Int)),(49,i4_ k_1),(13,str q_1),(14,i4_ y.1.1)]) (λy=>(Pu::((A,.cells #[y.1.2.2.2.2.2.1] 365 (0,0))::(y.1.2.2.2.2.1++y.1.2.2.2.2.2.2)))) (λy=>[bk_ B (.cells #[.map (some I)] 321 (0,0)),X_ fad (RF.flatMap aa_),mlF prog 9 str Rul.cells E (List.map (λx=>(Rul.s x,x)) R) M,mlF prog 9 str Rul.cells F (List.map (λx=>(Rul.f x,x)) R) O,mlF prog 9 str aa_ J LA X,bZ_ ad l,X_ Y (H.flatMap aa_),bE_]) (λy=>H.length+1 - y.1.1) ⟨((0:Nat),ks_2,T_2,Q_2,HT_2,m,C),hT_2,by dsimp only;omega,hS_2,e⟩ zl zp zh ?_;rintro ⟨⟨m_1,b6,b4,Q_3,HT_3,m,C⟩,a1,hm_3,L,e⟩;dsimp only at a1 hm_3 L e ⊢;refine Zi 5 (λhr_3=>?_) λhr_3=>?_
  .refine Zz 10 ?_
   exact w_ ⟨(k_1+1,b6,b4,Q_3,HT_3,m,C),a1,hlq_1,L,e⟩ zab_ zl zp zh
  refine Zz 12 ?_;refine O_ (pS_ q_1 m_1 m_1 zaa_ zaa_ B A I b6 b4 Q_3 m HT_3 C a1 e (by have:=(L.len b0 hw).2;omega)) rfl rfl (l_ (c_ e_) (x_ (c_ s_) E_)) zf rfl λ⟨⟨V,S,T,U⟩,W,Q,a4⟩=>?_;dsimp only;simp only[yaD_,yap_,yas_];refine Zz 2 ?_;refine u_ (S_ e_ (aW_ (g_ aJ_))) (Zz 6 ?_);exact w_ ⟨(m_1+1,V,(fD_ (Itm.mk q_1 m_1 m_1) b4),(qe_ (Itm.mk q_1 m_1 m_1) b4 Q_3),T,S,U),W,by dsimp only;omega,L.add ⟨unvS_f hmq_1,yad_ _,by dsimp only;omega⟩,Q⟩ zab_ zl zp zh
 have a9:i<H.length:=by omega
 obtain⟨r_1,hr_1⟩:∃ b3,H[i]? = some b3:=⟨_,yaa_ a9⟩;refine Zz 23 ?_;refine O_ (pS_ r_1 i (i+1) (by have:=a9;omega) (by have:=a9;omega) B A I ks_1 T_1 Q_1 m HT_1 C hT_1 e (by have:=(hS_1.len b0 hw).2;omega)) rfl rfl (l_ (c_ e_) (x_ (c_ s_) E_)) zf rfl λ⟨⟨V,S,T,U⟩,W,Q,a4⟩=>?_;dsimp only;simp only[yaD_,yap_,yas_];refine Zz 2 ?_;refine u_ (S_ e_ (aW_ (g_ aJ_))) (Zz 5 ?_);exact w_ ⟨(i+1,V,(fD_ (Itm.mk r_1 i (i+1)) T_1),(qe_ (Itm.mk r_1 i (i+1)) T_1 Q_1),T,S,U),W,a9,hS_1.add ⟨unvS_w hr_1,by dsimp only;omega,by dsimp only;omega⟩,Q⟩ zab_ zl zp zh
theorem BB_ (E:List Ax) (lad:Ao) (lcap:Nat) (O:∀ x∈E,x.ok) (hC:∀ x∈E,x.check=0) (U:E.length<=20) (L:E.length<=12) (B:List Str) (A:Ao) (m:Nat) (Z:B.length<=m) (h2:2<=B.length) (hw:B.length<=4) (d:Str) (hN:∀ y,y=d\/y∈B->bg_ y=true/\y.length<=140737488351232):Tri prog 205 #[.slice lad E.length lcap,.slice A B.length m,str d] [] [bZ_ lad E,X_ A (B.flatMap aa_),bE_] (λy:Bool×Int=>.tuple #[.bool y.1,i4_ y.2]) (λ_=>[]) (λ_=>[]):=by
 refine j_ func205 rfl rfl ntmps205 rfl λv_1=>?_;refine Ad_ (p:=¬ A=none) (λv _ h q=>?_) λV=>?_
 .rcases (show bW_ v A _ from h.2.1) with e|⟨b,off,arr,T,fz,e,_⟩
  .cases B with
   | nil=>simp at h2
   | cons a t=>simp[aa_]at e
  rw[q]at e;cases e
 have X:A=none->m=0:=λq=>absurd q V
 refine Zz 11 ?_;refine B_ n_ D_ V_ rfl rfl rfl rfl rfl rfl λH=>?_;have F:at_ 9 1 (.slice (some ⟨H,0,none⟩) 1 1) (List.length [d]) (List.flatMap aa_ [d]) [(H,.cells #[str d] 9 (0,0))]:=⟨rfl,.inr ⟨H,1,_,rfl,rfl,yad_ _,by simp[maxLen],rfl,rfl⟩⟩;refine u_ e_ (Zz 1 ?_);refine bK_ (news:=List.flatMap aa_ B) dj_ F rfl rfl X Z Z_ (by rw[ch_ aa_ 1 an_]) zf (λu hu=>aF_ cz_ hu) (by simp only[maxLen];(simp only[yak_,yay_];omega)) (by (simp only[yak_,yay_];omega)) rfl λsv_1 Hr_1 C=>?_;refine u_ yaE_ ?_;have M:=zsa C;refine bQ_ M Z_ λJ N G S Q P=>?_;subst G;refine f_ (pH_ E lad lcap O hC U ([d]++B) J N (λy hy=>hN y (by simpa using hy)) zac_) rfl i_ zf rfl λ_=>?_;refine Zz 6 ?_;refine d_ (ai_ (cq_ rfl rfl) (show _=Value.bool false from yae_ Value.bool zae_)) rfl (Zi 10 (λC=>?_) λC=>?_)
 .refine Zz 9 ?_
  refine f_ (rA_ E lad lcap O hC L B A m zaa_) rfl i_ zf rfl λ⟨⟨Y,ks,T,HT⟩,a0⟩=>?_;dsimp only;simp only[yas_];have I:fE_ 367 Y ks T HT:=a0;refine Zz 1 ?_;refine d_ (eP_ (k:=d) bu_ cK_ ez_ I rfl rfl Z_) rfl (Zz 6 ?_);rcases (show dc_ ks d=none\/∃ b,dc_ ks d=some b by cases dc_ ks d<;>simp) with K|⟨bt,K⟩
  .refine d_ (ai_ (jC_ ov_ rfl rfl) (show _=Value.bool false from by simp[K])) rfl (Zz 14 ?_)
   exact eI_ results205 (false,0) rfl rfl rfl i_ zt
  refine d_ (ai_ (jC_ ov_ rfl rfl) (show _=Value.bool true from by simp[K])) rfl (Zz 8 ?_);refine d_ (gF_ K rfl) rfl (ar_ rfl rfl (d_ (gE_ (i:=0) ek_ jd_ rfl rfl zaa_) rfl (ar_ rfl rfl (d_ (fp_ (j:=B.length) em_ bn_ rfl rfl zaa_) rfl (ar_ rfl rfl (F_ (hA_ (k:=d) (i:=0) (j:=B.length) fm_ I K zaa_ zaa_ rfl Z_) rfl λW hr_2=>Zz 6 ?_))))));exact eI_ results205 (W,0) rfl rfl rfl i_ zt
 exfalso;omega
theorem AH_ (w:List Str) (e:Ao) (h:Nat) (s:Str) (hl:w.length<=9223372036854775807):Tri prog 280 #[.slice e w.length h,str s] [] [X_ e (w.flatMap aa_)] (λn:Int=>i4_ n) (λ_=>[]) (λ_=>[]):=by
 refine j_ func280 rfl rfl ntmps280 rfl λB=>?_;refine Zz 14 ?_;refine J_ (ι:={y:Nat // y<=List.length w}) (λy=>[(0,.slice e w.length h),(1,str s),(4,i4_ 0),(7,i4_ (List.length w:Int)),(8,i4_ y.1)]) (λy=>([])) (λy=>[X_ e (w.flatMap aa_)]) (λy=>w.length - y.1) ⟨(0:Nat),by simp⟩ zl i_ zh ?_;rintro ⟨i,v⟩;dsimp only at v ⊢;refine Zi 2 (λk=>?_) λk=>?_
 .refine Zz 12 ?_
  exact ac_ results280 (-1) rfl i_ zt
 have d:i<w.length:=by omega
 obtain⟨C,A⟩:∃ x,w[i]? = some x:=⟨_,yaa_ d⟩;refine Zi 21 (λm=>?_) λm=>?_
 .refine Zz 10 ?_
  exact w_ ⟨i+1,d⟩ zab_ zl i_ zh
 refine Zz 10 ?_;exact ac_ results280 (i:Int) rfl i_ zt
theorem nm_ (w:List Str) (e:Ao) (d:Nat) (s:Str) (hl:w.length<=9223372036854775807):Tri prog 204 #[.slice e w.length d,str s] [] [X_ e (w.flatMap aa_)] (λb:Bool=>.bool b) (λ_=>[]) (λ_=>[]):=by
  refine j_ func204 rfl rfl ntmps204 rfl λm=>?_;refine Zz 9 ?_;refine f_ (AH_ w e d s hl) rfl i_ zf rfl λix=>F_ (er_ rfl rfl) rfl λh k=>Zz 4 ?_
  exact ac_ results204 h rfl i_ zt
theorem CD_ (l:List Ax) (ad:Ao) (cap:Nat) (F:∀ x∈l,x.ok) (H:∀ x∈l,x.check=0) (N:l.length<=12) (x:Ax) (L:x.ok) (k:x.check=0) (hk:x.kind=5):Tri prog 121 #[.agg #[.slice ad l.length cap],Ax.val x] [] [bZ_ ad l,Ax.memF x,bE_] (λy:Bool×Int=>.tuple #[.bool y.1,i4_ y.2]) (λ_=>[]) (λ_=>[]):=by
  refine j_ func121 rfl rfl ntmps121 rfl λG=>?_;have K:=(Ax.good_of k).one hk;have B:=Ax.Good.roles (Ax.good_of k);obtain⟨d,m⟩:∃ d,x.roles[0]? = some d:=⟨_,yaa_ zaa_⟩;have h:=B d (yab_ m);refine Zz 2 ?_;refine L_ rfl rfl λM=>L_ rfl rfl λI=>Zz 6 ?_
  refine G_ 6 [0,1,2,3,4,5] zk zs (Zz 7 ?_);refine m_ 6 rfl zk (f_ (xe_ l ad cap F H zaa_ d (gm_ (h)) (by have:=cA_ (h);omega)) rfl i_ zf rfl λ⟨⟨J,aad,C⟩,A,e⟩=>?_);dsimp only;try dsimp only at A e
  refine Zz 3 ?_;refine G_ 0 [7,8,9,10,11] zk zs (Zz 11 ?_);refine d_ (ai_ (aV_ rfl rfl) (show _=Value.bool true from yae_ Value.bool zae_)) rfl (Zz 8 ?_);refine f_ (nm_ J aad C x.role (by have E:=e.1;have v:=e.2.1;simp only[maxLen]at v;dsimp only at E;omega)) rfl i_ zf rfl λcb=>?_;refine Zz 7 ?_;exact eI_ results121 (cb,0) rfl rfl rfl i_ zt
theorem AA_ (l:List Ax) (ad:Ao) (cap:Nat) (C:∀ x∈l,x.ok) (G:∀ x∈l,x.check=0) (E:l.length<=12) (x:Ax) (B:x.ok) (d:x.check=0) (hk:x.kind=6):Tri prog 122 #[.agg #[.slice ad l.length cap],Ax.val x] [] [bZ_ ad l,Ax.memF x,bE_] (λy:Bool×Int=>.tuple #[.bool y.1,i4_ y.2]) (λ_=>[]) (λ_=>[]):=by
  refine j_ func122 rfl rfl ntmps122 rfl λF=>?_;have k:=(Ax.good_of d).role zaa_;have m:=Ax.Good.chain (Ax.good_of d) hk;have e:=Ax.Good.roles (Ax.good_of d);refine Zz 2 ?_;refine L_ rfl rfl λJ=>L_ rfl rfl λH=>Zz 12 ?_
  refine f_ (BB_ l ad cap C G zaa_ E x.roles x.ad x.cap B.len m.1 (by have:=m.2;omega) x.role (λy A=>by rcases A with rfl|A;exact⟨gm_ k,by have:=cA_ k;omega⟩;exact⟨gm_ (e y A),by have:=cA_ (e y A);omega⟩)) rfl i_ (λv _ h=>by exact⟨h.1,h.2.1.2.2,h.2.2.1,trivial⟩) rfl λ⟨I,K⟩=>?_;dsimp only;refine Zz 7 ?_;exact eI_ results122 (I,K) rfl rfl rfl i_ zt
theorem CC_ (l:List Ax) (ad:Ao) (cap:Nat) (K:∀ x∈l,x.ok) (F:∀ x∈l,x.check=0) (O:l.length<=12) (x:Ax) (N:x.ok) (S:x.check=0) (hk:x.kind=7):Tri prog 123 #[.agg #[.slice ad l.length cap],Ax.val x] [] [bZ_ ad l,Ax.memF x,bE_] (λy:Bool×Int=>.tuple #[.bool y.1,i4_ y.2]) (λ_=>[]) (λ_=>[]):=by
 refine j_ func123 rfl rfl ntmps123 rfl λP=>?_;refine Zz 2 ?_;refine L_ rfl rfl λB=>L_ rfl rfl λv=>Zz 14 ?_
 refine J_ (ι:={y:Nat // y<=List.length l}) (λy=>[(2,zp_ B 0),(3,zp_ v 0),(4,.bool false),(5,i4_ 0),(11,.slice ad l.length cap),(12,i4_ (List.length l:Int)),(13,i4_ y.1)]) (λy=>((v,.cells (Ax.cells x).toArray 30 (0,0))::((B,.cells #[.slice ad l.length cap] 96 (0,0))::[]))) (λy=>[bZ_ ad l,Ax.memF x,bE_]) (λy=>l.length - y.1) ⟨(0:Nat),by simp⟩ zl zp zh ?_;rintro ⟨i,A⟩;dsimp only at A ⊢;refine Zi 2 (λC=>?_) λC=>?_
 .refine Zz 13 ?_
  exact eI_ results123 (false,0) rfl rfl rfl i_ zt
 obtain⟨d,m,L,e⟩:=zge (show i<l.length by omega);refine Zz 12 ?_;refine C_ aA_ rfl λQ=>p_ 0 I_ rfl rfl rfl rfl rfl rfl (Zi 7 (λE=>?_) λE=>?_)
 .refine Zz 11 ?_
  refine f_ (xe_ l ad cap K F zaa_ m.role (gm_ ((Ax.good_of (F m e)).role zaa_)) (by have:=cA_ ((Ax.good_of (F m e)).role zaa_);omega)) rfl i_ zf rfl λ⟨⟨M,aad,I⟩,G,k⟩=>?_;dsimp only;try dsimp only at G k
  refine Zz 11 ?_;refine d_ (ai_ (cq_ rfl rfl) (show _=Value.bool false from yae_ Value.bool zae_)) rfl (Zz 10 ?_);refine f_ (nm_ M aad I x.role (by have J:=k.1;have H:=k.2.1;simp only[maxLen]at H;dsimp only at J;omega)) rfl i_ zf rfl λcb=>?_;refine Zz 2 ?_;cases cb
  .refine Zz 8 ?_
   exact w_ ⟨i+1,d⟩ zab_ zl (l_ (c_ e_) (c_ e_)) (λ_ _ h=>h.2)
  refine Zz 8 ?_;exact eI_ results123 (true,0) rfl rfl rfl i_ zt
 refine Zz 10 ?_;exact w_ ⟨i+1,d⟩ zab_ zl (l_ (c_ e_) (c_ e_)) zh
def FaG (l:List Ax) (x:Ax) (ok:Bool) (e:Int):Prop:=(x.goalP.2.2≠0/\ok=false/\e=x.goalP.2.2)\/(x.goalP.2.2=0/\FaR l x ok e)
theorem yk_ (l:List Ax) (ad:Ao) (cap:Nat) (a0:∀ x∈l,x.ok) (hC:∀ x∈l,x.check=0) (X:l.length<=12) (x:Ax) (hox:x.ok) (q:List Pc) (F:List Fc) (er:Int) (S:x.goalP=(q,F,er)) (a2:q.length<=100000) (Z:∀ z∈q,z.sm) (hFl:F.length<=100000) (T:GlT x q F er):Tri prog 120 #[.agg #[.slice ad l.length cap],Ax.val x] [] [bZ_ ad l,Ax.memF x,bE_,kp_] (λy:{y:Bool×Int // FaG l x y.1 y.2}=>.tuple #[.bool y.1.1,i4_ y.1.2]) (λ_=>[]) (λ_=>[]):=by
 refine j_ func120 rfl rfl ntmps120 rfl λv_1=>?_;refine Zz 2 ?_;refine L_ rfl rfl λa1=>L_ rfl rfl λU=>Zz 7 ?_
 refine f_ (T) rfl i_ zf rfl λ⟨⟨O,L,fad,fcap⟩,B,H,J,I,A⟩=>?_;dsimp only;try dsimp only at B H J I A
 refine Zi 13 (λh=>?_) λh=>?_
 .refine Zz 9 ?_
  refine f_ (vr_ l ad cap a0 hC X q O L B A a2 Z) rfl i_ zf rfl λ⟨⟨d,m⟩,e⟩=>?_;dsimp only;try dsimp only at e
  have hAl:=gf_.len e;refine Zz 3 ?_;refine C_ zeroValue110 rfl λP=>p_ 0 bL_ rfl rfl rfl rfl rfl rfl (Zi 7 (λk=>?_) λk=>?_)
  .refine Zz 14 ?_
   refine J_ (ι:={y:Nat // y<=List.length F/\(∀ z∈List.take y F,pA_ d.facts z=true)}) (λy=>[(4,.bool false),(5,i4_ m),(8,zp_ P 0),(29,.slice fad F.length fcap),(30,i4_ (List.length F:Int)),(31,i4_ y.1)]) (λy=>((P,.cells #[.slice d.aad d.atoms.length d.acap,.slice d.fad d.facts.length d.fcap] 110 (0,0))::((U,.cells (Ax.cells x).toArray 30 (0,0))::((a1,.cells #[.slice ad l.length cap] 96 (0,0))::[])))) (λy=>[X_ d.aad (d.atoms.flatMap aa_),X_ d.fad (d.facts.flatMap Fc.cells),X_ O (q.flatMap Pc.cells),X_ fad (F.flatMap Fc.cells),bZ_ ad l,Ax.memF x,bE_,kp_]) (λy=>F.length - y.1) ⟨(0:Nat),by simp,zai_⟩ zl zp zh ?_;rintro ⟨i,M,V⟩;dsimp only at M V ⊢;refine Zi 2 (λN=>?_) λN=>?_
   .refine Zz 13 ?_
    exact eI_ results120 ⟨(true,0),by unfold FaG FaR;rw[S];exact .inr ⟨by simpa using h,⟨d,m,e,.inr ⟨by simpa using k,rfl,(ybb_.2 λz Q=>V z (by rw[yac_ zaa_];exact Q)).symm⟩⟩⟩⟩ rfl rfl rfl i_ zt
   have v:i<F.length:=by omega
   obtain⟨K,E⟩:∃ W,F[i]? = some W:=⟨_,yaa_ v⟩;have G:K∈F:=yab_ E;refine Zz 12 ?_;refine C_ ax_ rfl λb_4=>p_ 0 ao_ rfl rfl rfl rfl rfl rfl (Zz 6 ?_)
   refine aq_ (der_c d K zaa_) rfl i_ zf rfl λY C=>d_ (aK_ rfl) rfl (Zz 2 ?_)
   cases Y
   .refine Zz 8 ?_
    exact eI_ results120 ⟨(false,0),by unfold FaG FaR;rw[S];exact .inr ⟨by simpa using h,⟨d,m,e,.inr ⟨by simpa using k,rfl,(ycv_.2 ⟨K,G,by simpa using C⟩).symm⟩⟩⟩⟩ rfl rfl rfl i_ zt
   refine Zz 8 ?_;exact w_ ⟨i+1,v,(λz Q=>by rw[tk1 E,yai_,yam_]at Q;exact Q.elim (V z) λq=>by rw[q];simpa using C)⟩ zab_ zl (l_ (c_ e_) (l_ (c_ e_) (c_ e_))) zh
  refine Zz 11 ?_;exact eI_ results120 ⟨(false,m),by unfold FaG FaR;rw[S];exact .inr ⟨by simpa using h,⟨d,m,e,.inl ⟨by simpa using k,rfl,rfl⟩⟩⟩⟩ rfl rfl rfl i_ zt
 refine Zz 11 ?_;exact eI_ results120 ⟨(false,er),by unfold FaG;rw[S];exact .inl ⟨by simpa using h,rfl,rfl⟩⟩ rfl rfl rfl i_ zt
theorem iK_ {G:Prop} (h:G:=by
 simp only[ycW_];refine Zz 7 ?_;exact eI_ results56 ⟨(fb,k),λq=>absurd hk zaa_⟩ rfl rfl rfl i_ zt):G:=h
theorem eO_ {G:Prop} (h:G:=by
 refine Zz 11 ?_;refine d_ (aK_ rfl) rfl (Zz 9 ?_);refine O_ (first:=[(.agg #[.slice ad l.length cap])]) (vs:=[Ax.val x]) (cap:=[]) (yk_ l ad cap e E h x d q F er H C B A v) rfl rfl i_ zf rfl λ⟨⟨fb,k⟩,m⟩=>?_;try dsimp only at m
 simp only[ycW_];refine Zz 7 ?_;exact eI_ results56 ⟨(fb,k),λ_=>m⟩ rfl rfl rfl i_ zt):G:=h
theorem tM_ (l:List Ax) (ad:Ao) (cap:Nat) (e:∀ x∈l,x.ok) (E:∀ x∈l,x.check=0) (h:l.length<=12) (x:Ax) (d:x.ok) (q:List Pc) (F:List Fc) (er:Int) (H:x.goalP=(q,F,er)) (C:q.length<=100000) (B:∀ z∈q,z.sm) (A:F.length<=100000) (v:GlT x q F er) (G:x.check=0) (J:1<=x.kind) (M:x.kind<=9):Tri prog 56 #[.agg #[.slice ad l.length cap],Ax.val x] [] [bZ_ ad l,Ax.memF x,bE_,kp_] (λy:{y:Bool×Int // ¬ (x.kind=5\/x.kind=6\/x.kind=7)->FaG l x y.1 y.2}=>.tuple #[.bool y.1.1,i4_ y.1.2]) (λ_=>[]) (λ_=>[]):=by
 refine j_ func56 rfl rfl ntmps56 rfl λI=>?_;refine Zz 2 ?_;refine L_ rfl rfl λL=>L_ rfl rfl λK=>Zz 6 ?_
 refine bt_ rfl λN=>Zz 1 ?_
 refine d_ (bo_ rfl rfl) rfl (aR_ 0 (.inl rfl) aQ_ rfl rfl rfl rfl (aZ_ o_) (aw_ o_ rfl) (Zz 1 ?_));refine d_ (bo_ rfl rfl) rfl (aR_ 0 (.inl rfl) aQ_ rfl rfl rfl rfl (aZ_ o_) (aw_ o_ rfl) (Zz 1 ?_));refine d_ (bo_ rfl rfl) rfl (aR_ 0 (.inl rfl) aQ_ rfl rfl rfl rfl (aZ_ o_) (aw_ o_ rfl) (Zz 1 ?_));refine d_ (bo_ rfl rfl) rfl (aR_ 0 (.inl rfl) aQ_ rfl rfl rfl rfl (aZ_ o_) (aw_ o_ rfl) (Zz 1 ?_));refine d_ (bo_ rfl rfl) rfl (aR_ 0 (.inl rfl) aQ_ rfl rfl rfl rfl (aZ_ o_) (aw_ o_ rfl) (Zz 1 ?_));refine d_ (bo_ rfl rfl) rfl (aR_ 0 (.inl rfl) aQ_ rfl rfl rfl rfl (aZ_ o_) (aw_ o_ rfl) (Zz 1 ?_));refine d_ (bo_ rfl rfl) rfl (aR_ 0 (.inl rfl) aQ_ rfl rfl rfl rfl (aZ_ o_) (aw_ o_ rfl) (Zz 1 ?_));refine d_ (bo_ rfl rfl) rfl (aR_ 0 (.inl rfl) aQ_ rfl rfl rfl rfl (aZ_ o_) (aw_ o_ rfl) (Zz 1 ?_));refine d_ (bo_ rfl rfl) rfl (aR_ 0 (.inl rfl) aQ_ rfl rfl rfl rfl (aZ_ o_) (aw_ o_ rfl) (Zz 9 ?_));rcases (show x.kind=1\/x.kind=2\/x.kind=3\/x.kind=4\/x.kind=5\/x.kind=6\/x.kind=7\/x.kind=8\/x.kind=9 by omega) with hk|hk|hk|hk|hk|hk|hk|hk|hk
 .refine d_ (dM_ (i:=0) (u:=(.func (.func 120) #[.agg #[.slice ad l.length cap]] #[])) aQ_ rfl rfl 0 rfl (aZ_ o_) (aw_ o_ zba_)) rfl ?_
  exact eO_
 .refine d_ (dM_ (i:=1) (u:=(.func (.func 120) #[.agg #[.slice ad l.length cap]] #[])) aQ_ rfl rfl 0 rfl (aZ_ o_) (aw_ o_ zba_)) rfl ?_
  exact eO_
 .refine d_ (dM_ (i:=2) (u:=(.func (.func 120) #[.agg #[.slice ad l.length cap]] #[])) aQ_ rfl rfl 0 rfl (aZ_ o_) (aw_ o_ zba_)) rfl ?_
  exact eO_
 .refine d_ (dM_ (i:=3) (u:=(.func (.func 120) #[.agg #[.slice ad l.length cap]] #[])) aQ_ rfl rfl 0 rfl (aZ_ o_) (aw_ o_ zba_)) rfl ?_
  exact eO_
 .refine d_ (dM_ (i:=4) (u:=(.func (.func 121) #[.agg #[.slice ad l.length cap]] #[])) aQ_ rfl rfl 0 rfl (aZ_ o_) (aw_ o_ zba_)) rfl ?_
  refine Zz 11 ?_;refine d_ (aK_ rfl) rfl (Zz 9 ?_);refine O_ (first:=[(.agg #[.slice ad l.length cap])]) (vs:=[Ax.val x]) (cap:=[]) (CD_ l ad cap e E h x d G hk) rfl rfl i_ zf rfl λ⟨fb,k⟩=>?_;exact iK_
 .refine d_ (dM_ (i:=5) (u:=(.func (.func 122) #[.agg #[.slice ad l.length cap]] #[])) aQ_ rfl rfl 0 rfl (aZ_ o_) (aw_ o_ zba_)) rfl ?_
  refine Zz 11 ?_;refine d_ (aK_ rfl) rfl (Zz 9 ?_);refine O_ (first:=[(.agg #[.slice ad l.length cap])]) (vs:=[Ax.val x]) (cap:=[]) (AA_ l ad cap e E h x d G hk) rfl rfl i_ zf rfl λ⟨fb,k⟩=>?_;exact iK_
 .refine d_ (dM_ (i:=6) (u:=(.func (.func 123) #[.agg #[.slice ad l.length cap]] #[])) aQ_ rfl rfl 0 rfl (aZ_ o_) (aw_ o_ zba_)) rfl ?_
  refine Zz 11 ?_;refine d_ (aK_ rfl) rfl (Zz 9 ?_);refine O_ (first:=[(.agg #[.slice ad l.length cap])]) (vs:=[Ax.val x]) (cap:=[]) (CC_ l ad cap e E h x d G hk) rfl rfl i_ zf rfl λ⟨fb,k⟩=>?_;exact iK_
 .refine d_ (dM_ (i:=7) (u:=(.func (.func 120) #[.agg #[.slice ad l.length cap]] #[])) aQ_ rfl rfl 0 rfl (aZ_ o_) (aw_ o_ zba_)) rfl ?_
  exact eO_
 refine d_ (dM_ (i:=8) (u:=(.func (.func 120) #[.agg #[.slice ad l.length cap]] #[])) aQ_ rfl rfl 0 rfl (aZ_ o_) (aw_ o_ zba_)) rfl ?_;exact eO_
end Go.Proofs.YtbffkokbdeppaaaGreatDoor
namespace Go.Vs
open Go Go.Sx
namespace Con
theorem pZ_ {P:Con->Prop} (h:∀ c,(∀ p∈c.parts,P p)->P c) (c:Con):P c:=by
  have d:∀ n (c:Con),c.sz<=n->P c:=by
    intro n
    induction n with
    | zero=>intro c k;have:=c.sz_pos;omega
    | succ n ih=>intro c k;exact h c λp e=>ih p (by have:=sz_part e;omega)
  exact d _ c (yad_ _)
theorem dI_ {a b:Con} (h:a.core=b.core):a.kind=b.kind/\a.name=b.name/\a.lo=b.lo/\a.hi=b.hi/\a.parts.map core=b.parts.map core:=by
  rw[core_eq,core_eq b]at h;simp only[mk.injEq]at h;exact⟨h.1,h.2.1,h.2.2.1,h.2.2.2.1,h.2.2.2.2.2.2⟩
theorem uk_ {a b:Con} (h:a.core=b.core):a.parts.length=b.parts.length:=by
  have:=yae_ List.length (dI_ h).2.2.2.2;simpa using this
theorem jn_ {α:Type} {f:Con->α}:∀ {l m:List Con},l.map core=m.map core->(∀ x∈l,∀ y:Con,x.core=y.core->f x=f y)->l.map f=m.map f
  | [],[],_,_=>rfl
  | [],_::_,h,_=>by simp at h
  | _::_,[],h,_=>by simp at h
  | x::l,y::m,h,hf=>by
    simp only[yar_,yaP_]at h ⊢;exact⟨hf x zai_ y h.1,jn_ h.2 λz d=>hf z zaH_⟩
theorem BL_ (a:Con):∀ b:Con,a.core=b.core->a.text=b.text :=
  pZ_ (P:=λa=>∀ b:Con,a.core=b.core->a.text=b.text) (λa k b h=>by
    obtain⟨A,m,C,v,B⟩:=dI_ h;have e:a.parts.map operand=b.parts.map operand:=jn_ B λx E y d=>by unfold operand;rw[core_kind d,k x E y d]
    rw[text_eq,text_eq b,A,m,C,v,e]) a
theorem uc_ {a b:Con} (h:a.core=b.core):a.fieldErr=b.fieldErr:=by
  obtain⟨k,d,m,e,_⟩:=dI_ h;unfold fieldErr;rw[k,d,m,e,uk_ h]
theorem lo_:∀ {l m:List Con},l.map core=m.map core->(∀ x∈l,∀ y:Con,x.core=y.core->x.firstErr=y.firstErr)->firstErr.firstErrs l=firstErr.firstErrs m
  | [],[],_,_=>rfl
  | [],_::_,h,_=>by simp at h
  | _::_,[],h,_=>by simp at h
  | x::l,y::m,h,hf=>by
    simp only[yar_,yaP_]at h;simp only[firstErr.firstErrs];rw[hf x zai_ y h.1,lo_ h.2 λz d=>hf z zaH_]
theorem ua_ (a:Con):∀ b:Con,a.core=b.core->a.firstErr=b.firstErr :=
  pZ_ (P:=λa=>∀ b:Con,a.core=b.core->a.firstErr=b.firstErr) (λa d b h=>by
    rw[hp_,hp_ b,uc_ h,lo_ (dI_ h).2.2.2.2 d]) a
theorem wO_:∀ {l m:List Con},l.map core=m.map core->(∀ x∈l,∀ y:Con,x.core=y.core->x.dep=y.dep)->dep.deps l=dep.deps m
  | [],[],_,_=>rfl
  | [],_::_,h,_=>by simp at h
  | _::_,[],h,_=>by simp at h
  | x::l,y::m,h,hf=>by
    simp only[yar_,yaP_]at h;simp only[dep.deps];rw[hf x zai_ y h.1,wO_ h.2 λz d=>hf z zaH_]
theorem dep_co (a:Con):∀ b:Con,a.core=b.core->a.dep=b.dep :=
  pZ_ (P:=λa=>∀ b:Con,a.core=b.core->a.dep=b.dep) (λa d b h=>by
    rw[hy_,hy_ b,wO_ (dI_ h).2.2.2.2 d]) a
theorem sz_co {a b:Con} (h:a.core=b.core):a.sz=b.sz:=by rw[<-kS_ a,<-kS_ b,h]
theorem check_co {a b:Con} (h:a.core=b.core):a.check=b.check:=by
  have e:(a.fits 0 0).1=(b.fits 0 0).1:=by
    rw[ybh_,ln_ _ a (yad_ _),ln_ _ b (yad_ _),dep_co a b h,sz_co h]
  unfold check;rw[e,ua_ a b h]
theorem empty_co {a b:Con} (h:a.core=b.core):a.empty=b.empty:=by
  obtain⟨k,d,m,e,_⟩:=dI_ h;unfold empty;rw[k,d,m,e,uk_ h]
theorem bare_co (a:Con):∀ b:Con,a.core=b.core->a.bare=b.bare :=
  pZ_ (P:=λa=>∀ b:Con,a.core=b.core->a.bare=b.bare) (λa d b h=>by
    obtain⟨k,_,_,_,m⟩:=dI_ h;have e:=jn_ (f:=bare) m d
    have v:a.parts.any bare=b.parts.any bare:=by
      have:=yae_ (λl=>l.any id) e;simpa using this
    rw[bare_eq,bare_eq b,k,v]) a
theorem sK_ {a b:Con} (h:a.core=b.core):a.textN=b.textN:=by unfold textN;rw[check_co h,BL_ a b h]
theorem operandN_co {a b:Con} (h:a.core=b.core):a.operandN=b.operandN:=by unfold operandN;rw[core_kind h,sK_ h]
theorem atom_co {a b:Con} (h:a.core=b.core):a.atom=b.atom:=by
  unfold atom;rw[core_kind h,(dI_ h).2.1,sK_ h]
theorem pre_co {a b:Con} (h:a.core=b.core) (j:Nat):(a.pre j).core=(b.pre j).core:=by
  have d:=(dI_ h).2.2.2.2;rw[core_eq,core_eq (b.pre j)];show mk 5 [] 0 0 none 0 ((a.parts.take j).map core)=mk 5 [] 0 0 none 0 ((b.parts.take j).map core)
  rw[ycE_,ycE_,d]
theorem xb_ (f:Int) {a b:Con} (h:a.core=b.core):∀ {r s:List Con},r.map core=s.map core->∀ (j:Nat) (g:Str) (l:List Pc),andP f a r j g l=andP f b s j g l
  | [],[],_,_,_,_=>rfl
  | [],_::_,e,_,_,_=>by simp at e
  | _::_,[],e,_,_,_=>by simp at e
  | x::r,y::s,e,j,g,l=>by
    simp only[yar_,yaP_]at e;simp only[andP];rw[atom_co (pre_co h (j+1)),atom_co e.1,xb_ f h e.2]
theorem ut_ {l m:List Con} (h:l.map core=m.map core):l.map atom=m.map atom:=jn_ h λ_ _ _ e=>atom_co e
theorem tH_ (f:Int):∀ {l m:List Con},l.map core=m.map core->(∀ x∈l,∀ y:Con,x.core=y.core->∀ q,x.leftP f q=y.leftP f q)->∀ q,leftP.lefts f l q=leftP.lefts f m q
  | [],[],_,_,_=>rfl
  | [],_::_,h,_,_=>by simp at h
  | _::_,[],h,_,_=>by simp at h
  | x::l,y::m,h,hf,q=>by
    simp only[yar_,yaP_]at h;simp only[leftP.lefts];rw[hf x zai_ y h.1,tH_ f h.2 λz d=>hf z zaH_]
theorem leftP_co (f:Int) (a:Con):∀ b:Con,a.core=b.core->∀ q,a.leftP f q=b.leftP f q :=
  pZ_ (P:=λa=>∀ b:Con,a.core=b.core->∀ q,a.leftP f q=b.leftP f q) (λa k b h q=>by
    obtain⟨x,m,y,v,d⟩:=dI_ h;have e:(a.parts.drop 1).map core=(b.parts.drop 1).map core:=by rw[List.map_drop,List.map_drop,d]
    rw[leftP_eq,leftP_eq f b,x,m,y,v,ut_ d,tH_ f d k,xb_ f h e,atom_co h]) a
theorem qB_ (f:Int) (g:Str):∀ {l m:List Con},l.map core=m.map core->(∀ x∈l,∀ y:Con,x.core=y.core->∀ q,x.rightP f q=y.rightP f q)->∀ q,rightP.rights f g l q=rightP.rights f g m q
  | [],[],_,_,_=>rfl
  | [],_::_,h,_,_=>by simp at h
  | _::_,[],h,_,_=>by simp at h
  | x::l,y::m,h,hf,q=>by
    simp only[yar_,yaP_]at h;simp only[rightP.rights];rw[atom_co h.1,hf x zai_ y h.1,qB_ f g h.2 λz d=>hf z zaH_]
theorem qA_ (f:Int):∀ {l m:List Con},l.map core=m.map core->(∀ x∈l,∀ y:Con,x.core=y.core->∀ q,x.rightP f q=y.rightP f q)->∀ q,rightP.righty f l q=rightP.righty f m q
  | [],[],_,_,_=>rfl
  | [],_::_,h,_,_=>by simp at h
  | _::_,[],h,_,_=>by simp at h
  | x::l,y::m,h,hf,q=>by
    simp only[yar_,yaP_]at h;simp only[rightP.righty];rw[hf x zai_ y h.1,qA_ f h.2 λz d=>hf z zaH_]
theorem rightP_co (f:Int) (a:Con):∀ b:Con,a.core=b.core->∀ q,a.rightP f q=b.rightP f q :=
  pZ_ (P:=λa=>∀ b:Con,a.core=b.core->∀ q,a.rightP f q=b.rightP f q) (λa e b h q=>by
    obtain⟨v,k,x,m,d⟩:=dI_ h;rw[rightP_eq,rightP_eq f b,v,k,x,m,ut_ d,qB_ f _ d e,qA_ f d e,atom_co h]) a
end Con
theorem Ax.check_co {x y:Ax} (h:x.alk y):x.check=y.check:=by
  obtain⟨v,d,e,m,B,k,A⟩:=h;unfold Ax.check Ax.shaped Ax.namedU;rw[v,Con.empty_co d,Con.empty_co e,m,B,k,A,Con.check_co d,Con.check_co e,Con.bare_co _ _ d,Con.bare_co _ _ e]
theorem Ax.goalP_co {x y:Ax} (h:x.alk y):x.goalP=y.goalP:=by
  have E:=Ax.check_co h;obtain⟨A,d,e,F,k,v,B⟩:=h;have m:x.disj=y.disj:=by unfold Ax.disj;rw[Con.operandN_co d,Con.operandN_co e]
  have C:x.doms=y.doms:=by unfold Ax.doms;rw[k]
  unfold Ax.goalP;rw[E,A,k,v,B,m,C,Con.atom_co d,Con.atom_co e];simp only[Con.leftP_co (-1) _ _ d,Con.leftP_co (-1) _ _ e,Con.rightP_co (-1) _ _ d,Con.rightP_co (-1) _ _ e]
namespace Con
theorem lr_:∀ {l:List (Con×Int)},erF l=0↔∀ z∈l,z.2=0
 | []=>by simp[erF]
 | z::l=>by
   simp only[erF,yal_,forall_eq_or_imp]
   by_cases h:z.2=0
   . rw[yag_ (by simpa using h),lr_];simp[h]
   . rw[yaq_ h];simp[h]
theorem nf_ (s:List Con) (h:(meetF s).2=0):(∃ b∈s,b.kind=2/\meetF s=(b,0))\/(s.find? (λc=>decide (c.kind=2))=none/\((s=[]/\meetF s=(mk 1 [] 0 0 none 0 [],0))\/(∃ x,s=[x]/\meetF s=(x,0))\/(2<=s.length/\s.length<=8/\meetF s=(mk 5 [] 0 0 none 0 s,0)))):=by
 unfold meetF at h ⊢;cases hf:s.find? λc=>decide (c.kind=2) with
 | some b=>exact .inl ⟨b,ycn_ hf,by simpa using List.find?_some hf,rfl⟩
 | none =>
   rw[hf]at h;refine .inr ⟨rfl,?_⟩
   match s,h with
   | [],_=>exact .inl ⟨rfl,rfl⟩
   | [x],_=>exact .inr (.inl ⟨x,rfl,rfl⟩)
   | x::y::r,h =>
     dsimp only at h ⊢
     by_cases d:8<(x::y::r).length
     . rw[yaq_ d]at h;exact absurd h zae_
     . rw[yag_ d];exact .inr (.inr ⟨by simp,by omega,rfl⟩)
theorem wb_ {I Q:Con->Prop}
    (G:∀ c:Con,c.kind≠5->c.kind≠6->I c->Q c)
    (m:∀ c p:Con,c.kind=5\/c.kind=6->I c->p∈c.parts->I p)
    (zero:∀ c:Con,c.kind=6->c.parts=[]->I c->Q zeroC)
    (v:∀ c z:Con,c.kind=6->I c->Q z->z.kind≠2->Q (mk 6 c.name 0 0 none 0 [z]))
    (top:Q (mk 1 [] 0 0 none 0 []))
    (H:∀ s:List Con,SrC s->(∀ z∈s,Q z/\z.kind≠1/\z.kind≠5)->(s.find? λc=>decide (c.kind=2))=none->2<=s.length->s.length<=8->Q (mk 5 [] 0 0 none 0 s)) (c:Con) :
    I c->c.tdy.2=0->Q c.tdy.1/\∀ z∈flat1 c.tdy.1,Q z:=by
  refine pZ_ (P:=λc=>I c->c.tdy.2=0->Q c.tdy.1/\∀ z∈flat1 c.tdy.1,Q z) ?_ c;intro c M J he
  by_cases C:c.kind=6
  . match A:c.parts with
    | [] =>
      have e:c.tdy=(zeroC,0):=by rw[fY_,yaq_ C,A];rfl
      have d:=zero c C A J;rw[e]
      exact⟨d,λz k=>by
        have:z=zeroC:=by simpa [flat1,zeroC,kind] using k
        rw[this];exact d⟩
    | p::ps =>
      have e:c.tdy=if p.tdy.2≠0\/p.tdy.1.kind=2 then p.tdy else (mk 6 c.name 0 0 none 0 [p.tdy.1],0):=by rw[fY_,yaq_ C,A];rfl
      have B:p∈c.parts:=by rw[A];simp
      have K:=m c p (.inr C) J B
      by_cases E:p.tdy.2≠0\/p.tdy.1.kind=2
      . rw[yaq_ E]at e
        rw[e]at he ⊢;exact M p B K he
      . rw[yag_ E]at e
        rw[e];simp only[not_or,ne_eq,Decidable.not_not]at E;have O:=v c _ C J (M p B K E.1).1 E.2
        exact⟨O,λz d=>by
          have:z=mk 6 c.name 0 0 none 0 [p.tdy.1]:=by simpa [flat1,kind] using d
          rw[this];exact O⟩
  . by_cases L:c.kind=5
    . rw[tdy_and L]at he ⊢
      by_cases F:erF (c.parts.map tdy)≠0
      . rw[yaq_ F]at he;exact absurd he F
      . rw[yag_ F]at he ⊢
        simp only[ne_eq,Decidable.not_not]at F;have V:=lr_.1 F;have U:=oG_ ((c.parts.map tdy).flatMap λz=>flat1 z.1)
        have hm:∀ z∈srtC ((c.parts.map tdy).flatMap λz=>flat1 z.1),Q z/\z.kind≠1/\z.kind≠5:=λz d=>by
          obtain⟨y,T,k⟩:=yaB_.1 (iZ_ d);obtain⟨p,A,rfl⟩:=yan_.1 T;exact⟨(M p A (m c p (.inl L) J A) (V _ T)).2 z k,pv_ (uI_ _ p (yad_ _)) z k⟩
        generalize srtC ((c.parts.map tdy).flatMap λz=>flat1 z.1)=s at U hm he ⊢
        rcases nf_ s he with⟨b,N,hk,e⟩|⟨Y,⟨_,e⟩|⟨x,Z,e⟩|⟨l2,W,e⟩⟩
        . rw[e]
          exact⟨(hm b N).1,λz d=>by
            have:z=b:=by simpa [flat1,hk] using d
            rw[this];exact (hm b N).1⟩
        . rw[e]
          exact⟨top,λz d=>by simp[flat1,kind]at d⟩
        . rw[e]
          obtain⟨S,q2,X⟩:=hm x (by rw[Z];simp)
          exact⟨S,λz d=>by
            have:z=x:=by simpa [flat1,q2,X] using d
            rw[this];exact S⟩
        . rw[e]
          exact⟨H s U hm Y l2 W,λz d=>(hm z (by simpa [flat1,kind,parts] using d)).1⟩
    . rw[tdy_self L C]at he ⊢
      have:=G c L C J;refine⟨this,λz d=>?_⟩;unfold flat1 at d;dsimp only at d
      split at d
      . simp at d
      . rw[yam_]at d;rw[d];exact this
def Td (c:Con):Prop:=c.tdy.2=0/\c.tdy.1.core=c.core
theorem wH_:∀ {s:List Con},(∀ z∈s,Td z/\z.kind≠1/\z.kind≠5)->((s.map tdy).flatMap λz=>flat1 z.1).map core=s.map core
  | [],_=>rfl
  | x::s,h=>by
    obtain⟨⟨_,d⟩,m,k⟩:=h x zai_;have hk:=Go.Vs.Con.core_kind d;have e:flat1 x.tdy.1=[x.tdy.1]:=by unfold flat1;rw[hk,yag_ m,yag_ k]
    rw[yar_,yaT_,e,yaz_,wH_ λz v=>h z (by simp[v]),yar_];simp[d]
theorem CR_:∀ {s t:List Con},s.map core=t.map core->(s.find? λc=>decide (c.kind=2))=none->(t.find? λc=>decide (c.kind=2))=none:=fun {s t} h hf=>by
  rw[List.find?_eq_none]at hf ⊢;intro y d;have:y.core∈s.map core:=by rw[h];exact yaZ_ d
  obtain⟨x,k,e⟩:=yan_.1 this;have:=hf x k;rwa [Go.Vs.Con.core_kind e]at this
theorem Ah_ {s t:List Con} (h:s.map core=t.map core) (d:(s.find? λc=>decide (c.kind=2))=none) (e:2<=s.length) (k:s.length<=8):meetF t=(mk 5 [] 0 0 none 0 t,0):=by
  have hl:s.length=t.length:=by simpa using yae_ List.length h
  unfold meetF;rw[CR_ h d]
  match t,hl with
  | [],hl=>simp at hl;simp[hl]at e
  | [x],hl=>simp at hl;omega
  | x::y::r,hl=>dsimp only;rw[yag_ zaa_]
theorem td_tdy (c:Con) (h:c.tdy.2=0):Td c.tdy.1:=by
 refine (wb_ (I:=λ_=>True) (Q:=Td) (λc F E _=>by unfold Td;rw[tdy_self F E];exact⟨rfl,rfl⟩) (λ_ _ _ _ _=>trivial) (λ_ _ _ _=>⟨rfl,rfl⟩) ?_ ⟨rfl,rfl⟩ ?_ c trivial h).1
 .intro c z _ _ d hk
  have e:=tdy_some (c:=mk 6 c.name 0 0 none 0 [z]) (p:=z) rfl rfl;rw[yag_ (by rw[Go.Vs.Con.core_kind d.2];simp[d.1,hk])]at e;unfold Td;rw[e];refine⟨rfl,?_⟩;rw[core_eq,core_eq (mk 6 c.name 0 0 none 0 [z])];simp[kind,name,lo,hi,parts,d.2]
 intro s B hm v A y
 have he:erF (s.map tdy)=0:=lr_.2 λz d=>by
   obtain⟨x,C,rfl⟩:=yan_.1 d;exact (hm x C).1.1
 have m:=wH_ hm;have G:SrC ((s.map tdy).flatMap λz=>flat1 z.1):=by rw[<-SrC.core,m,SrC.core];exact B
 have k:(srtC ((s.map tdy).flatMap λz=>flat1 z.1)).map core=s.map core:=by rw[<-srtC_uniq G (λ_=>Iff.rfl),m]
 have e:=tdy_and (c:=mk 5 [] 0 0 none 0 s) rfl;rw[show (mk 5 [] 0 0 none 0 s).parts=s from rfl,yag_ (by simpa using he),Ah_ k.symm v A y]at e;unfold Td;rw[e];refine⟨rfl,?_⟩;rw[core_eq,core_eq (mk 5 [] 0 0 none 0 s)];simp only[kind,name,lo,hi,parts];rw[k]
theorem lf_:∀ {l m:List Con},l.map (λc=>(c.tdy.1.core,c.tdy.2))=m.map (λc=>(c.tdy.1.core,c.tdy.2))->((l.map tdy).flatMap λz=>flat1 z.1).map core=((m.map tdy).flatMap λz=>flat1 z.1).map core
 | [],[],_=>rfl
 | [],_::_,h=>by simp at h
 | _::_,[],h=>by simp at h
 | x::l,y::m,h=>by
   simp only[yar_,yaP_,ybN_]at h
   have e:(flat1 x.tdy.1).map core=(flat1 y.tdy.1).map core:=by
     unfold flat1;rw[Go.Vs.Con.core_kind h.1.1]
     split
     . rfl
     . split
       . exact (dI_ h.1.1).2.2.2.2
       . simp[h.1.1]
   rw[yar_,yar_,yaT_,yaT_,yaz_,yaz_,e,lf_ h.2]
theorem AR_:∀ {l m:List Con},l.map (λc=>(c.tdy.1.core,c.tdy.2))=m.map (λc=>(c.tdy.1.core,c.tdy.2))->erF (l.map tdy)=erF (m.map tdy)
  | [],[],_=>rfl
  | [],_::_,h=>by simp at h
  | _::_,[],h=>by simp at h
  | x::l,y::m,h=>by
    simp only[yar_,yaP_,ybN_]at h;simp only[yar_,erF];rw[h.1.2,AR_ h.2]
theorem BY_ {l m:List Con} (h:l.map core=m.map core):(srtC l).map core=(srtC m).map core:=srtC_uniq (oG_ l) λz=>by rw[sR_,h]
theorem meetF_core {s t:List Con} (h:s.map core=t.map core):(meetF s).1.core=(meetF t).1.core/\(meetF s).2=(meetF t).2:=by
 have e:(s.find? λc=>decide (c.kind=2)).map core=(t.find? λc=>decide (c.kind=2)).map core:=by
   have k:∀ l:List Con,(l.find? λc=>decide (c.kind=2)).map core=(l.map core).find? λc=>decide (c.kind=2):=by
     intro l;rw[List.find?_map]
     congr 2
     funext c
     simp[vG_]
   rw[k,k,h]
 unfold meetF;cases hs:s.find? λc=>decide (c.kind=2) with
 | some b =>
   cases ht:t.find? λc=>decide (c.kind=2) with
   | some d=>rw[hs,ht]at e;simp at e;exact⟨e,rfl⟩
   | none=>rw[hs,ht]at e;simp at e
 | none =>
   cases ht:t.find? λc=>decide (c.kind=2) with
   | some d=>rw[hs,ht]at e;simp at e
   | none =>
     have hl:s.length=t.length:=by simpa using yae_ List.length h
     match s,t,hl,h with
     | [],[],_,_=>exact⟨rfl,rfl⟩
     | [x],[y],_,h=>simp at h;exact⟨h,rfl⟩
     | x::x2::r,y::y2::r2,hl,h =>
       dsimp only;rw[hl]
       split
       . exact⟨rfl,rfl⟩
       . refine⟨?_,rfl⟩
         rw[core_eq,core_eq (mk 5 [] 0 0 none 0 (y::y2::r2))];simp only[kind,name,lo,hi,parts];rw[h]
theorem tdy_co (a:Con):∀ b:Con,a.core=b.core->a.tdy.1.core=b.tdy.1.core/\a.tdy.2=b.tdy.2 :=
 pZ_ (P:=λa=>∀ b:Con,a.core=b.core->a.tdy.1.core=b.tdy.1.core/\a.tdy.2=b.tdy.2) (λa C b h=>by
   obtain⟨m,A,H,I,E⟩:=dI_ h
   have e:a.parts.map (λc=>(c.tdy.1.core,c.tdy.2))=b.parts.map (λc=>(c.tdy.1.core,c.tdy.2)):=jn_ E λx B y v=>by
     have:=C x B y v;rw[this.1,this.2]
   by_cases k:a.kind=6
   . match ha:a.parts,hb:b.parts,e with
     | [],[],_ =>
       rw[fY_,yaq_ k,ha,fY_ b,yaq_ (m▸k),hb];exact⟨rfl,rfl⟩
     | [],_::_,e=>simp at e
     | _::_,[],e=>simp at e
     | p::ps,q::qs,e =>
       simp only[yar_,yaP_,ybN_]at e;have F:a.tdy=if p.tdy.2≠0\/p.tdy.1.kind=2 then p.tdy else (mk 6 a.name 0 0 none 0 [p.tdy.1],0):=by rw[fY_,yaq_ k,ha];rfl
       have G:b.tdy=if q.tdy.2≠0\/q.tdy.1.kind=2 then q.tdy else (mk 6 b.name 0 0 none 0 [q.tdy.1],0):=by rw[fY_,yaq_ (m▸k),hb];rfl
       rw[F,G,e.1.2,Go.Vs.Con.core_kind e.1.1]
       split
       . exact e.1
       . refine⟨?_,rfl⟩
         show mk 6 a.name 0 0 none 0 [p.tdy.1.core]=mk 6 b.name 0 0 none 0 [q.tdy.1.core]
         rw[A,e.1.1]
   . by_cases d:a.kind=5
     . rw[tdy_and d,tdy_and (c:=b) (m▸d),AR_ e]
       split
       . exact⟨rfl,rfl⟩
       . exact meetF_core (BY_ (lf_ e))
     . rw[tdy_self d k,tdy_self (m▸d) (m▸k)]
       exact⟨h,rfl⟩) a
theorem AM_ (c:Con) (v:c.fine) (h:c.tdy.2=0):c.tdy.1.fine:=by
 refine (wb_ (I:=λc=>c.fine) (Q:=λc=>c.fine) (λc _ _ h=>h) (λc p _ h d=>fine_part h d) ?_ ?_ ((gV_ _).2 ⟨rfl,by simp[parts]⟩) ?_ c v h).1
 .intro c m d e
  have:=(fields e).le;rw[m,d]at this;simp[nd,ei_]at this
 .intro c z m e x _
  have k:=(ld_ e).plain zaa_;refine (gV_ _).2 ⟨?_,λp d=>?_⟩
  .generalize c.name=nm at k
   unfold fieldErr;simp[kind,name,lo,hi,parts,nd,ei_,k]
  simp[parts]at d;rw[d];exact x
 intro s _ hm _ A y;refine (gV_ _).2 ⟨?_,λp d=>(hm p d).1⟩;unfold fieldErr;simp[kind,name,lo,hi,parts,nd,ei_]
 omega
theorem wW_ {c:Con} (e:c.kind≠4) (d:c.kind≠5):c.bare=false:=by rw[bare_eq];simp[e,d]
theorem bare_tdy (c:Con):c.bare=false->c.tdy.2=0->∀ z,z=c.tdy.1\/z∈flat1 c.tdy.1->z.bare=false:=by
 refine pZ_ (P:=λc=>c.bare=false->c.tdy.2=0->∀ z,z=c.tdy.1\/z∈flat1 c.tdy.1->z.bare=false) ?_ c;intro c K A he z k
 have one:∀ {d:Con},d.bare=false->d.kind≠5->z=d\/z∈flat1 d->z.bare=false:=fun {d} m B v=>by
   rcases v with rfl|v
   . exact m
   . unfold flat1 at v
     rw[yag_ B]at v
     split at v
     . simp at v
     . rw[yam_]at v;rw[v];exact m
 by_cases H:c.kind=6
 .have hk:c.tdy.1.kind≠4/\c.tdy.1.kind≠5:=by
    rw[fY_,yaq_ H]at he ⊢
    split at he
    . split at he
      . rename_i m
        rw[yaq_ m];rcases m with m|m
        . exact absurd he m
        . omega
      . rename_i m
        rw[yag_ m];simp[kind]
    . simp[zeroC,kind]
  exact one (wW_ hk.1 hk.2) hk.2 k
 by_cases B:c.kind=5
 .rw[tdy_and B]at he k
  by_cases E:erF (c.parts.map tdy)≠0
  .rw[yaq_ E]at he;exact absurd he E
  rw[yag_ E]at he k;simp only[ne_eq,Decidable.not_not]at E;have m:=lr_.1 E;have I:∀ p∈c.parts,p.bare=false:=by rw[bare_eq]at A;simpa [B] using A
  have hm:∀ z∈srtC ((c.parts.map tdy).flatMap λz=>flat1 z.1),z.bare=false/\z.kind≠5:=λz k=>by
    obtain⟨y,G,C⟩:=yaB_.1 (iZ_ k);obtain⟨p,F,rfl⟩:=yan_.1 G;exact⟨K p F (I p F) (m _ G) z (.inr C),(pv_ (uI_ _ p (yad_ _)) z C).2⟩
  generalize srtC ((c.parts.map tdy).flatMap λz=>flat1 z.1)=s at hm he k
  rcases nf_ s he with⟨b,A,hk,e⟩|⟨L,⟨_,e⟩|⟨x,J,e⟩|⟨M,N,e⟩⟩
  .rw[e]at k;exact one (hm b A).1 (hm b A).2 k
  .rw[e]at k;exact one (wW_ (by simp[kind]) (by simp[kind])) (by simp[kind]) k
  .rw[e]at k
   have:=hm x (by rw[J];simp);exact one this.1 this.2 k
  rw[e]at k;rcases k with rfl|k
  .rw[bare_eq];simp only[kind,parts];simpa using λz k=>(hm z k).1
  exact (hm z (by simpa [flat1,kind,parts] using k)).1
 rw[tdy_self B H]at k;exact one A B k
theorem dep_of {s:List Con} {n:Nat} (h:∀ z∈s,1+z.dep<=n):dep.deps s<=n:=by
  induction s with
  | nil=>simp[dep.deps]
  | cons x s ih=>have e:=h x zai_;have k:=ih λz d=>h z zaH_;simp only[dep.deps];omega
theorem Db_ (c:Con):∀ z,z=c.tdy.1\/z∈flat1 c.tdy.1->z.dep<=c.dep:=by
 refine pZ_ (P:=λc=>∀ z,z=c.tdy.1\/z∈flat1 c.tdy.1->z.dep<=c.dep) ?_ c;intro c G z B
 have one:∀ {d:Con},d.dep<=c.dep->z=d\/z∈flat1 d->z.dep<=c.dep:=fun {d} A e=>by
   rcases e with rfl|e
   . exact A
   . unfold flat1 at e
     split at e
     . simp at e
     . split at e
       . have:=lv_ e;rw[<-hy_]at this;omega
       . rw[yam_]at e;rw[e];exact A
 have k:∀ p∈c.parts,1+p.dep<=c.dep:=λp v=>by have:=lv_ v;rwa [<-hy_]at this
 refine one ?_ B;clear B one
 by_cases F:c.kind=6
 .rw[fY_,yaq_ F]
  split
  .rename_i y l E
   have:y∈c.parts.map tdy:=by rw[E];simp
   obtain⟨p,v,rfl⟩:=yan_.1 this;have A:=G p v _ (.inl rfl);have e:=k p v
   split
   .omega
   rw[hy_];simp only[parts,dep.deps];omega
  exact ybm_ _
 by_cases H:c.kind=5
 .rw[tdy_and H]
  split
  .exact ybm_ _
  have hm:∀ z∈srtC ((c.parts.map tdy).flatMap λz=>flat1 z.1),1+z.dep<=c.dep:=λz B=>by
    obtain⟨y,E,C⟩:=yaB_.1 (iZ_ B);obtain⟨p,m,rfl⟩:=yan_.1 E;have A:=G p m z (.inr C);have e:=k p m;omega
  generalize srtC ((c.parts.map tdy).flatMap λz=>flat1 z.1)=s at hm
  unfold meetF
  split
  .rename_i b I
   have:=hm b (ycn_ I);dsimp only;omega
  split
  .exact ybm_ _
  .rename_i x _;have:=hm x zai_;dsimp only;omega
  split
  .exact ybm_ _
  rw[hy_];exact dep_of hm
 rw[tdy_self H F];exact yad_ _
theorem check_tdy {c:Con} (d:c.check=0) (h:c.tdy.2=0):c.tdy.1.check=0:=by
  rw[mb_]at d ⊢;have e:=Db_ c _ (.inl rfl);have k:=tdy_sz c;exact⟨by omega,by omega,AM_ c d.2.2 h⟩
end Con
namespace Ax
theorem qo_ {x:Ax} (h:x.tdyE=0):x.check=0/\((us x.kind).left=true->x.left.tdy.2=0)/\((us x.kind).right=true->x.right.tdy.2=0):=by
 unfold tdyE at h
 split at h
 .rename_i d;exact absurd h d
 rename_i d
 split at h
 .rename_i m;exact absurd h m.2
 rename_i m
 split at h
 .rename_i k;exact absurd h k.2
 rename_i k
 exact⟨by simpa using d,λe=>by simpa [e] using m,λe=>by simpa [e] using k⟩
theorem pG_ {x:Ax} {l r:Con} (e:x.check=0) (v:(us x.kind).left=false->l.empty=true) (m:(us x.kind).right=false->r.empty=true)
    (hl:(us x.kind).left=true->l.check=0) (F:(us x.kind).right=true->r.check=0) (B:x.kind=2->l.bare=false/\r.bare=false) (G:x.kind=1\/x.kind=4\/x.kind=8->r.bare=false) :
    ({ x with left:=l,right:=r }:Ax).check=0:=by
  have d:x.shaped=true:=by
    cases h:x.shaped with
    | true=>rfl
    | false=>unfold Ax.check at e;rw[yaq_ h]at e;cases e
  have H:x.namedU (us x.kind)=true:=by
    cases h:x.namedU (us x.kind) with
    | true=>rfl
    | false=>unfold Ax.check at e;rw[yag_ (by rw[d];simp),yaq_ h]at e;cases e
  have y:({ x with left:=l,right:=r }:Ax).shaped=true:=by
    unfold shaped at d ⊢
    split at d
    . simp at d
    . rename_i hk
      rw[yag_ hk];simp only[yaL_,ybs_]at d ⊢;obtain⟨⟨⟨⟨⟨⟨L,k⟩,J⟩,C⟩,K⟩,I⟩,E⟩:=d;refine⟨⟨⟨⟨⟨⟨?_,?_⟩,J⟩,C⟩,K⟩,I⟩,E⟩
      . cases h:(us x.kind).left with
        | true=>exact .inl rfl
        | false=>exact .inr (v h)
      . cases h:(us x.kind).right with
        | true=>exact .inl rfl
        | false=>exact .inr (m h)
  have A:({ x with left:=l,right:=r }:Ax).namedU (us x.kind)=true:=H;unfold Ax.check;rw[yag_ (by rw[y];simp),yag_ (by rw[A];simp),yag_ (λq=>q.2 (hl q.1)),yag_ (λq=>q.2 (F q.1)),yag_,yag_]
  . rintro ⟨q,k⟩;rw[G q]at k;cases k
  . rintro ⟨q,k⟩;rw[(B q).1,(B q).2]at k;simp at k
theorem no_ {x:Ax} (d:x.check=0):((us x.kind).left=false->x.left.empty=true)/\((us x.kind).right=false->x.right.empty=true)/\((us x.kind).left=true->x.left.check=0)/\((us x.kind).right=true->x.right.check=0)/\(x.kind=2->x.left.bare=false/\x.right.bare=false)/\(x.kind=1\/x.kind=4\/x.kind=8->x.right.bare=false):=by
 have e:x.shaped=true:=by
   cases h:x.shaped with
   | true=>rfl
   | false=>unfold Ax.check at d;rw[yaq_ h]at d;cases d
 unfold Ax.check at d;rw[yag_ (by rw[e];simp)]at d
 split at d
 .cases d
 split at d
 .rename_i h;exact absurd d h.2
 rename_i v
 split at d
 .rename_i h;exact absurd d h.2
 rename_i B
 split at d
 .cases d
 rename_i A
 split at d
 .cases d
 rename_i m
 unfold shaped at e
 split at e
 .simp at e
 simp only[yaL_,ybs_]at e;obtain⟨⟨⟨⟨⟨⟨k,y⟩,_⟩,_⟩,_⟩,_⟩,_⟩:=e;refine⟨λh=>by simpa [h] using k,λh=>by simpa [h] using y,λh=>by simpa [h] using v,λh=>by simpa [h] using B,λh=>by simpa [h] using A,λh=>?_⟩;cases hb:x.right.bare with
 | false=>rfl
 | true=>exact absurd ⟨h,hb⟩ m
theorem us_two {k:Int} (h:k=2\/k=3):(us k).left=true/\(us k).right=true:=by rcases h with rfl|rfl<;>decide
theorem qm_ {a:Ax} (he:a.tdyE=0):((us a.kind).left=true->Con.Td a.tdyL/\a.tdyL.check=0)/\((us a.kind).right=true->Con.Td a.tdyR/\a.tdyR.check=0):=by
  obtain⟨v,d,e⟩:=qo_ he;obtain⟨_,_,k,m,_⟩:=no_ v;unfold tdyL tdyR;exact⟨λq=>by rw[yaq_ q];exact⟨Con.td_tdy _ (d q),Con.check_tdy (k q) (d q)⟩,λq=>by rw[yaq_ q];exact⟨Con.td_tdy _ (e q),Con.check_tdy (m q) (e q)⟩⟩
section
variable {a t:Ax} (h:TdyOf a t) (he:a.tdyE=0)
include h he
theorem tdy_check:t.check=0:=by
 obtain⟨m,E,G⟩:=qo_ he;obtain⟨F,I,_,_,e,C⟩:=no_ m;obtain⟨A,v⟩:=qm_ he;have H:(us a.kind).left=false->a.tdyL.empty=true:=λq=>by unfold tdyL;rw[yag_ (by rw[q];simp)];exact F q
 have J:(us a.kind).right=false->a.tdyR.empty=true:=λq=>by unfold tdyR;rw[yag_ (by rw[q];simp)];exact I q
 have b1:a.left.bare=false->a.tdyL.bare=false:=λq=>by
   unfold tdyL
   split
   . rename_i u;exact Con.bare_tdy _ q (E u) _ (.inl rfl)
   . exact q
 have b2:a.right.bare=false->a.tdyR.bare=false:=λq=>by
   unfold tdyR
   split
   . rename_i u;exact Con.bare_tdy _ q (G u) _ (.inl rfl)
   . exact q
 by_cases d:a.swp
 .obtain⟨B,x⟩:=us_two d.1
  have k:=pG_ (l:=a.tdyR) (r:=a.tdyL) m (λq=>by rw[B]at q;cases q) (λq=>by rw[x]at q;cases q) (λ_=>(v x).2) (λ_=>(A B).2) (λq=>⟨b2 (e q).2,b1 (e q).1⟩) (λq=>by have:=d.1;omega);refine (Ax.check_co (y:={ a with left:=a.tdyR,right:=a.tdyL }) ⟨h.kind,?_,?_,h.roles,h.role,h.a,h.b⟩).trans k
  .rw[h.left,yaq_ d]
  rw[h.right,yaq_ d]
 have k:=pG_ (l:=a.tdyL) (r:=a.tdyR) m H J (λq=>(A q).2) (λq=>(v q).2) (λq=>⟨b1 (e q).1,b2 (e q).2⟩) (λq=>b2 (C q));refine (Ax.check_co (y:={ a with left:=a.tdyL,right:=a.tdyR }) ⟨h.kind,?_,?_,h.roles,h.role,h.a,h.b⟩).trans k
 .rw[h.left,yag_ d]
 rw[h.right,yag_ d]
theorem sL_:((us t.kind).left=true->Con.Td t.left)/\((us t.kind).right=true->Con.Td t.right):=by
 obtain⟨x,v⟩:=qm_ he
 have k:∀ {c d:Con},c.core=d.core->Con.Td d->Con.Td c:=fun {c d} e q=>by
   have:=Con.tdy_co c d e;exact⟨this.2.trans q.1,this.1.trans (q.2.trans e.symm)⟩
 rw[h.kind]
 by_cases m:a.swp
 .obtain⟨A,y⟩:=us_two m.1
  exact⟨λ_=>k (by rw[h.left,yaq_ m]) (v y).1,λ_=>k (by rw[h.right,yaq_ m]) (x A).1⟩
 exact⟨λu=>k (by rw[h.left,yag_ m]) (x u).1,λu=>k (by rw[h.right,yag_ m]) (v u).1⟩
theorem tdy_again:t.tdyE=0:=by
  obtain⟨d,e⟩:=sL_ h he;unfold tdyE;rw[yag_ (by rw[tdy_check h he];simp),yag_ (λq=>q.2 (d q.1).1),yag_ (λq=>q.2 (e q.1).1)]
theorem tdy_twice {y:Ax} (d:TdyOf t y):t.alk y:=by
 obtain⟨F,E⟩:=sL_ h he
 have C:t.tdyL.core=t.left.core:=by
   unfold tdyL
   split
   . rename_i u;exact (F u).2
   . rfl
 have x:t.tdyR.core=t.right.core:=by
   unfold tdyR
   split
   . rename_i u;exact (E u).2
   . rfl
 have B:¬ t.swp:=by
   rintro ⟨A,k⟩;rw[Con.cmp_of C x]at k
   by_cases e:a.swp
   . have m:t.left.core=a.tdyR.core:=by rw[h.left,yaq_ e]
     have v:t.right.core=a.tdyL.core:=by rw[h.right,yaq_ e]
     rw[Con.cmp_of m v,Con.cmp_anti a.tdyL a.tdyR]at k;have:=e.2;omega
   . have m:t.left.core=a.tdyL.core:=by rw[h.left,yag_ e]
     have v:t.right.core=a.tdyR.core:=by rw[h.right,yag_ e]
     rw[Con.cmp_of m v]at k;rw[h.kind]at A;exact e ⟨A,k⟩
 refine⟨d.kind.symm,?_,?_,d.roles.symm,d.role.symm,d.a.symm,d.b.symm⟩
 .rw[d.left,yag_ B,C]
 rw[d.right,yag_ B,x]
end
end Ax
end Go.Vs
namespace Go.Proofs.YtbffkokbdeppaaaGreatDoor
open Go Go.Sx Go.Proofs Tryz
attribute [local irreducible] Code.wp wpList wpAnyH
open Go.Vs
def EnG (l:List Ax) (a:Ax) (ok:Bool) (e:Int):Prop:=∃ e0,BCk l e0/\((e0≠0/\ok=false/\e=e0)\/(e0=0/\∃ y te,TyR a (y,te)/\((te≠0/\ok=false/\e=te)\/(te=0/\(¬ (y.kind=5\/y.kind=6\/y.kind=7)->FaG l y ok e)))))
theorem rX_ {x:Ax} (d:x.check=0) (hk:x.kind=5\/x.kind=6\/x.kind=7):x.goalP=([],[],22):=by
  unfold Ax.goalP;rw[yag_ (by rw[d];simp),yag_ zaa_,yag_ zaa_,yag_ zaa_,yag_ zaa_,yag_ zaa_,yag_ zaa_]
theorem tX_ {x:Ax} (d:x.ok) (e:x.check=0):x.goalP.1.length<=100000/\(∀ z∈x.goalP.1,z.sm)/\x.goalP.2.1.length<=100000:=by
 by_cases hk:x.kind=5\/x.kind=6\/x.kind=7
 .rw[rX_ e hk];simp
 obtain⟨h,_⟩:=rW_ d e hk;exact⟨by have:=h.len;omega,λz k=>(h.pq z k).sm,by have:=h.one;omega⟩
theorem pz_ (l:List Ax) (ad:Ao) (cap:Nat) (H:∀ x∈l,x.ok) (K:l.length<=12) (a:Ax) (L:a.ok) (J:∀ y,TdyOf a y->y.check=0):Tri prog 19 #[.agg #[.slice ad l.length cap],Ax.val a] [] [bZ_ ad l,Ax.memF a,bE_,kp_] (λy:{y:Bool×Int // EnG l a y.1 y.2}=>.tuple #[.bool y.1.1,i4_ y.1.2]) (λ_=>[]) (λ_=>[]):=by
 refine j_ func19 rfl rfl ntmps19 rfl λQ=>?_;refine Zz 2 ?_;refine L_ rfl rfl λS=>L_ rfl rfl λO=>Zz 8 ?_
 refine f_ (nq_ l ad cap H zaa_) rfl i_ zf rfl λ⟨k,h⟩=>?_;dsimp only;refine Zi 6 (λA=>?_) λA=>?_
 .have m:k=0:=by simpa using A
  have N:∀ x∈l,x.check=0:=jS_ (lz_ (m▸h)).1;refine Zz 8 ?_;refine f_ (oA_ a L) rfl i_ zf rfl λ⟨⟨d,I⟩,e⟩=>?_;dsimp only;try dsimp only at e
  refine Zz 3 ?_;refine C_ aA_ rfl λT=>p_ 0 I_ rfl rfl rfl rfl rfl rfl (Zi 7 (λv=>?_) λv=>?_)
  .have C:I=0:=by simpa using v
   have E:d.ok:=(e.2 C).2;have F:d.check=0:=J d (e.2 C).1;have G:=Ax.good_of F;have B:=tX_ E F;refine Zz 9 ?_;refine d_ (y_ strt96 rfl rfl) rfl (Zz 1 ?_);refine f_ (tM_ l ad cap H N K d E (Ax.goalP d).1 (Ax.goalP d).2.1 (Ax.goalP d).2.2 rfl B.1 B.2.1 B.2.2 (vz_ E rfl) F G.k1 G.k9) rfl i_ zf rfl λ⟨⟨fb,P⟩,M⟩=>?_;dsimp only;try dsimp only at M
   refine Zz 7 ?_;exact eI_ results19 ⟨(fb,P),⟨k,h,.inr ⟨m,d,I,e,.inr ⟨C,M⟩⟩⟩⟩ rfl rfl rfl i_ zt
  refine Zz 11 ?_;exact eI_ results19 ⟨(false,I),⟨k,h,.inr ⟨m,d,I,e,.inl ⟨by simpa using v,rfl,rfl⟩⟩⟩⟩ rfl rfl rfl i_ zt
 refine Zz 11 ?_;exact eI_ results19 ⟨(false,k),⟨k,h,.inl ⟨by simpa using A,rfl,rfl⟩⟩⟩ rfl rfl rfl i_ zt
theorem AV_ {f x:Fc} (h:lu_ f x=true):x.a=f.a:=by
 unfold lu_ at h;simp only[ybs_,yaL_,ybv_]at h;rcases h with (rfl|h)|⟨⟨_,h⟩,_⟩
 .rfl
 .rw[h];rfl
 rw[h];rfl
theorem yy_ {F G:List Fc} {f:Fc} (h:∀ y:Fc,y.a=f.a->(y∈F↔y∈G)):pA_ F f=pA_ G f:=by
 rw[ybh_,wN_,wN_,yco_,yco_];constructor
 .rintro ⟨x,e,d⟩;exact⟨x,(h x (AV_ d)).1 e,d⟩
 rintro ⟨x,e,d⟩;exact⟨x,(h x (AV_ d)).2 e,d⟩
def tA_ (l:List Ax) (q:List Pc):List Ax:=eB_ l (eL_ l (cB_ 0 l++q) (cE_ q) l.length)
theorem Dr_ {p q:List Pc} {s:Str} (h:s∈atS (p++q++fd_ (cE_ q))):s∈atS (p++q):=by
 rw[jT_]at h ⊢;rcases h with h|h
 .rw[dP_]at h
  obtain⟨x,v,k⟩:=yaB_.1 h;rcases yai_.1 v with v|v
  .exact .inl ((dP_ _ _).2 (yaB_.2 ⟨x,v,k⟩))
  obtain⟨t,A,rfl⟩:=yan_.1 v
  have d:s=t\/s=[42]:=by
    have:=(yaQ_.1 k).1;have m:=(yaQ_.1 k).2;simp only[yal_,yat_,ybd_]at this;rcases this with e|e|e
    . exact .inl e
    . rw[e]at m;simp at m
    . exact .inr e
  rcases d with rfl|d
  .rw[dP_]at A ⊢
   obtain⟨z,B,y⟩:=yaB_.1 A;exact .inl (yaB_.2 ⟨z,yaF_ _ B,y⟩)
  exact .inr (.inl d)
 exact .inr h
section
variable {l:List Ax} {q:List Pc} (hl:l.length<=12) (hok:∀ x∈l,x.ok) (hc:∀ x∈l,x.check=0)
include hl hok hc
theorem tz_:∀ x∈cB_ 0 l++q,Usb (cB_ 0 l++q) (cE_ q) x->∃ y∈cB_ 0 (tA_ l q)++q,∃ n,{ y with frm:=n }=x:=λx v F=>by
 rcases yai_.1 v with d|d
 .obtain⟨j,a,m,h⟩:=jq_.1 d
  rw[ybP_]at h;have A:=yab_ m;have G:=(yaf_.1 m).1;have C:x.frm=j:=(Ax.pieces_all (f:=(j:Int)) zaa_ zaa_ (hok a A) (hc a A) x h).frm;have hm:(j:Int)∈eL_ l (cB_ 0 l++q) (cE_ q) l.length:=Ak_.2 ⟨by omega,.inr ⟨x,v,C,F⟩⟩;have B:a∈tA_ l q:=lQ_.2 ⟨j,hm,by simpa using m⟩;obtain⟨k,hk⟩:=yaJ_ B;obtain⟨y,E,n,e⟩:=nb_ ((0+k:Nat):Int) h;exact⟨y,yax_ _ (jq_.2 ⟨k,a,hk,E⟩),n,e⟩
 exact⟨x,yaF_ _ d,x.frm,rfl⟩
theorem ys_ {y:Fc} (h:Der (cB_ 0 l++q) (atS (cB_ 0 l++q)) y) (e:y.a∈cE_ q):Der (cB_ 0 (tA_ l q)++q) (atS (cB_ 0 (tA_ l q)++q)) y:=by
  have k:∀ x∈cB_ 0 l++q,∃ y∈cB_ 0 l++q++fd_ (cE_ q),∃ n,{ y with frm:=n }=x:=λx d=>⟨x,yax_ _ d,x.frm,rfl⟩
  have m:=(yw_ (tz_ hl hok hc) (h.mono k (zu_ k)) (.base (by
    unfold dF_;exact yaF_ _ (yan_.2 ⟨_,e,rfl⟩)))).1
  exact (Da_ m).mono (λx d=>⟨x,d,x.frm,rfl⟩) λ_=>Dr_
omit hl hok hc in
theorem wE_ {y:Fc} (h:Der (cB_ 0 (tA_ l q)++q) (atS (cB_ 0 (tA_ l q)++q)) y):Der (cB_ 0 l++q) (atS (cB_ 0 l++q)) y:=by
 have k:∀ x∈cB_ 0 (tA_ l q)++q,∃ y∈cB_ 0 l++q,∃ n,{ y with frm:=n }=x:=λx d=>by
   rcases yai_.1 d with d|d
   . obtain⟨y,m,e⟩:=to_ x d
     exact⟨y,yax_ _ m,e⟩
   . exact⟨x,yaF_ _ d,x.frm,rfl⟩
 exact h.mono k (zu_ k)
theorem pF_ (k:q.length<=2000) (h:∀ x∈q,x.valid=true):dO_ (cB_ 0 l++q)=0:=by
 have e:=ps_ 0 l hc;unfold dO_;rw[yag_ zbu_,yaq_];rw[ybb_];intro x d;rcases yai_.1 d with d|d
 .exact (pt_ l 0 zaa_ hok hc x d).2.2.2
 exact h x d
end
theorem EnG.opn {l:List Ax} {t:Ax} {x:Bool} {g:Int} (h:EnG l t x g) (J:BCk l 0) (F:t.tdyE=0) (B:∀ y,TdyOf t y->t.alk y) (hk:¬ (t.kind=5\/t.kind=6\/t.kind=7)) (K:t.goalP.2.2=0) :
    ∃ c A,gf_ (cB_ 0 l++t.goalP.1) 1073741824 c A/\((A≠0/\x=false/\g=A)\/(A=0/\g=0/\x=t.goalP.2.1.all (pA_ c.facts))):=by
  obtain⟨I,C,⟨d,_,_⟩|⟨_,y,M,G,⟨d,_,_⟩|⟨d,L⟩⟩⟩:=h
  . exact absurd (C.uniq J) d
  . exact absurd (G.1.trans F) d
  . have v:=B y (G.2 d).1
    have e:=Ax.goalP_co v;rcases L (by rw[<-v.1];exact hk) with⟨m,_⟩|⟨_,c,E,H,k⟩
    . rw[<-e]at m;exact absurd K m
    . rw[<-e]at H k
      exact⟨c,E,H,k⟩
theorem mg_law {l X:List Ax} {a t:Ax} {x:Bool} {f g:Int} (hl:l.length<=12) (hok:∀ x∈l,x.ok) (T:TdyOf a t) (E:a.tdyE=0) (a2:t.ok) (hO:OfR l t.goalP.1 t.goalP.2.2 X f) (hE:EnG l t x g) :
    (f≠0->X=[]/\(f=22\/g≠0\/f=2))/\(f=0->BCk l 0/\(g≠0->x=false/\g=2)/\(g=0->∀ y h,EnG X t y h->h=0/\x=y)):=by
  have H:=Ax.tdy_check T E;have I:=Ax.tdy_again T E;have a1:∀ y,TdyOf t y->t.alk y:=λy O=>Ax.tdy_twice T E O
  obtain⟨P,e_1,hM,hO⟩:=hO;rcases hO with⟨A,e,k⟩|⟨A,e,k,F⟩|⟨A,_,_,e,k⟩|⟨A,e,_,k,F⟩
  . refine⟨λ_=>⟨k,.inr (.inl ?_)⟩,λq=>absurd (e.symm.trans q) A⟩
    obtain⟨a3,Q,⟨C,m,_⟩|⟨C,m,_⟩⟩:=hM
    . obtain⟨Z,Y,⟨N,_,v_2⟩|⟨N,_⟩⟩:=hE
      . rw[v_2];exact N
      . exact absurd ((Q.uniq Y).trans N) C
    . exfalso
      have hc:=jS_ (lz_ (C▸Q)).1;rw[kx_ hl hc]at m;exact A m
  . refine⟨λ_=>⟨F,.inl ?_⟩,λq=>absurd (k.symm.trans q) e⟩
    by_cases hk:t.kind=5\/t.kind=6\/t.kind=7
    . rw[k,rX_ H hk]
    . exact absurd (rW_ a2 H hk).2 e
  . exact⟨λ_=>⟨k,.inr (.inr e)⟩,λq=>by rw[q]at e;cases e⟩
  . refine⟨λq=>absurd k q,λ_=>?_⟩
    obtain⟨hb,_,hP⟩:=hM.ok A;have hc:=jS_ (lz_ hb).1;have hp:aM_ l=(cB_ 0 l,0):=kx_ hl hc;rw[hp]at hP;subst hP;have hk:¬ (t.kind=5\/t.kind=6\/t.kind=7):=λhk=>by rw[rX_ H hk]at e;cases e
    obtain⟨G,_⟩:=rW_ a2 H hk;have hq:=G.len;have hv:∀ z∈t.goalP.1,z.valid=true:=λz W=>(G.pq z W).ok
    obtain⟨c,a3,hA,B⟩:=hE.opn hb I a1 hk e;have hkl:=pF_ hl hok hc hq hv
    have hs:X.Sublist l:=by
      have:=oV_ (l:=l) (p:=cB_ 0 l++t.goalP.1) (S:=cE_ t.goalP.1) l.length (yad_ _);rw[ybB_]at this;rw[F];exact this
    refine⟨hb,λhg=>?_,λhg y h a4=>?_⟩
    . rcases B with⟨C,m,w_3⟩|⟨_,m,_⟩
      . refine⟨m,?_⟩
        rcases xc_ hA hkl zae_ zae_ with⟨v,_⟩|⟨_,v,_⟩
        . exact absurd v C
        . rw[w_3,v];decide
      . exact absurd m hg
    . have Z:a3=0:=by
        rcases B with q|q
        . exact absurd (q.2.2.symm.trans hg) q.1
        . exact q.1
      subst Z;have K:x=t.goalP.2.1.all (pA_ c.facts):=B.elim (λq=>absurd rfl q.1) λq=>q.2.2
      obtain⟨d,e_4,hB,V⟩:=a4.opn (Dn_ hb hs) I a1 hk e;have hkX:=pF_ (l:=X) (ybn_ hs.length_le hl) (λx K=>hok x (hs.subset K)) (λx K=>hc x (hs.subset K)) hq hv;have L:X=tA_ l t.goalP.1:=F;have U:=hA.good.2.2.2.2.2;have a0:∀ y,y∈c.facts↔Der (cB_ 0 l++t.goalP.1) (atS (cB_ 0 l++t.goalP.1)) y:=U.2.1;have hup:∀ y,Der (cB_ 0 X++t.goalP.1) (atS (cB_ 0 X++t.goalP.1)) y->y∈c.facts:=λy O=>(a0 y).2 (wE_ (L▸O))
      have J:e_4=0/\∀ y,y∈d.facts↔Der (cB_ 0 X++t.goalP.1) (atS (cB_ 0 X++t.goalP.1)) y:=by
        rcases xc_ hB hkX zae_ zae_ with⟨q,_,e⟩|⟨_,_,M,m_1,m_2,m_3⟩
        . exact⟨q,e.2.1⟩
        . exfalso
          have Q:=gR_ m_1 λx K=>hup x (m_2 x K)
          have Y:=U.2.2;have h_3:(min (1073741824:Int) 65536).toNat=65536:=by decide
          omega
      obtain⟨J,hdf⟩:=J;subst J;obtain⟨hh,O⟩:h=0/\y=t.goalP.2.1.all (pA_ d.facts):=V.elim (λq=>absurd rfl q.1) λq=>q.2
      refine⟨hh,?_⟩;rw[K,O,ybh_,ybb_,ybb_]
      have key:∀ z∈t.goalP.2.1,pA_ c.facts z=pA_ d.facts z:=λz W=>yy_ λy O=>by
        have ha:y.a∈cE_ t.goalP.1:=by
          rw[O,dP_];have hm:=(G.ment z W).1;refine yaB_.2 ⟨_,hm,yaQ_.2 ⟨by simp,?_⟩⟩;have:=BH_ (hv _ hm) (.inl rfl);simpa using this
        rw[a0,hdf];exact⟨λh=>L▸ys_ hl hok hc h ha,λh=>wE_ (L▸h)⟩
      exact forall_congr' λz=>forall_congr' λW=>by rw[key z W]
end Go.Proofs.YtbffkokbdeppaaaGreatDoor
namespace Go.Proofs.YtbffkokbdeppaaaGreatDoor
open Go Go.Sx Go.Proofs Tryz
attribute [local irreducible] Code.wp wpList wpAnyH
open Go.Vs
theorem yU_ {x y:AL} (h:x.ok) (e:y.ok):∀ z∈[x,y],AL.ok z:=λz d=>by
 rcases yal_.1 d with rfl|d
 .exact h
 rw[yam_.1 d];exact e
theorem OfR.subG {l X:List Ax} {q:List Pc} {d e:Int} (h:OfR l q d X e):(∀ x∈X,x∈l)/\X.length<=l.length:=by
 obtain⟨P,k,_,h|h|h|⟨_,_,_,_,h⟩⟩:=h
 .rw[h.2.2];simp
 .rw[h.2.2.2];simp
 .rw[h.2.2.2.2];simp
 rw[h];refine⟨λx m=>?_,ybn_ (List.length_filterMap_le _ _) (tE_ _)⟩;obtain⟨i,_,hi⟩:=lQ_.1 m;exact yab_ hi
theorem ee_ {G:Prop} (h:G:=by
 exact ac_ results4 () rfl i_ zt):G:=h
set_option maxHeartbeats 1000000 in
theorem moduleGoal_c (T:Tri prog 6 #[] [] [bE_] (λ_:Unit=>.bool true) (λ_=>[]) (λ_=>[])) (E:List Ax) (lad:Ao) (lcap:Nat) (a1:E.length<=lcap/\lcap<=2199023255488) (A:∀ x∈E,x.ok) (x:Ax) (a3:x.ok):Tri prog 4 #[.agg #[.slice lad E.length lcap],Ax.val x] [] [bZ_ lad E,Ax.memF x,bE_,kp_] (λ_:Unit=>.bool true) (λ_=>[]) (λ_=>[]):=by
 refine j_ func4 rfl rfl ntmps4 rfl λv_1=>?_;refine Zz 2 ?_;refine L_ rfl rfl λb_1=>L_ rfl rfl λb_2=>Zz 6 ?_
 refine f_ (T) rfl i_ zf rfl λ_=>d_ (aK_ rfl) rfl (Zz 10 ?_)
 refine f_ (CT_ E lad lcap a1 A) rfl i_ zf rfl λ⟨fb,hfb⟩=>?_;dsimp only;refine d_ (aK_ rfl) rfl (Zz 1 ?_);cases fb
 .refine Zz 17 ?_
  exact ee_
 obtain⟨V,hfw⟩:=hfb rfl;refine Zz 7 ?_;refine B_ aN_ I_ aA_ rfl rfl rfl rfl rfl rfl λJ=>?_;refine U_ (List.flatMap Ax.cells [x]) e_ rfl ?_;refine ar_ rfl rfl (B_ runUnderlying86 hD_ zeroValue22 rfl rfl rfl rfl rfl rfl λZ=>?_);refine U_ (List.flatMap AL.cells [(AL.mk E lad lcap),(AL.mk [x] (some ⟨J,0,none⟩) 1)]) e_ rfl ?_;refine ar_ rfl rfl (f_ (Dz_ [(AL.mk E lad lcap),(AL.mk [x] (some ⟨J,0,none⟩) 1)] (some ⟨Z,0,none⟩) 2 (yU_ ⟨by dsimp only;omega,A⟩ ⟨by simp,λy U=>by rw[yam_.1 U];exact a3⟩) zai_) rfl i_ (λv _ h=>by exact⟨h.1,(al_two h.2.2.1 ⟨h.2.1,λy U=>by rw[yam_.1 U];exact h.2.2.2.1⟩),trivial⟩) rfl λlb=>?_);refine ar_ rfl rfl (d_ (aK_ rfl) rfl (Zz 3 ?_));cases lb
 .refine Zz 7 ?_
  exact ee_
 refine Zz 6 ?_;refine f_ (oA_ x a3) rfl i_ zf rfl λ⟨⟨t,te⟩,P⟩=>?_;dsimp only;try dsimp only at P
 refine Zz 3 ?_;refine C_ aA_ rfl λb_5=>p_ 0 I_ rfl rfl rfl rfl rfl rfl (Zi 7 (λK=>?_) λK=>?_)
 .have a0:te=0:=by simpa using K
  obtain⟨I,B⟩:=P.2 a0;have k:x.tdyE=0:=P.1.symm.trans a0;have S:=Ax.tdy_check I k;refine Zz 9 ?_;refine f_ (ww_ E lad lcap A V t B (Ax.goalP t).1 (Ax.goalP t).2.1 (Ax.goalP t).2.2 (vz_ B rfl) (tX_ B S).1) rfl i_ zf rfl λ⟨⟨svX,HqX,X,f⟩,a8,Q⟩=>?_;dsimp only;try dsimp only at a8 Q
  refine bQ_ a8 s_ λW a5 a2 hcxad b4 b3=>?_;subst a2;obtain⟨C,b0⟩:=OfR.subG Q;have a7:∀ x∈X,x.ok:=λx hx=>A x (C x hx)
  refine lb_ (Γ':=bZ_ W X::[X_ W (X.flatMap Ax.cells),Ax.memF t,X_ (some ⟨Z,0,none⟩) (List.flatMap AL.cells [(AL.mk E lad lcap),(AL.mk [x] (some ⟨J,0,none⟩) 1)]),X_ (some ⟨J,0,none⟩) (List.flatMap Ax.cells [x]),bZ_ lad E,Ax.memF x,bE_,kp_]) (λv _ h=>⟨⟨h.1,λx hx=>(h.2.2.2.2.1).2 x (C x hx)⟩,h⟩) ?_;refine Zz 3 ?_;refine C_ st_ rfl λb_6=>p_ 0 cw_ rfl rfl rfl rfl rfl rfl (Zz 7 ?_)
  refine f_ (pz_ E lad lcap A V t B (λy U=>(Ax.check_co (Ax.tdy_twice I k U)).symm.trans S)) rfl i_ zf rfl λ⟨⟨bx,eg⟩,L⟩=>?_;dsimp only;try dsimp only at L
  obtain⟨O,H⟩:=mg_law V A I k B Q L;refine Zi 11 (λm=>?_) λm=>?_
  .refine Zz 9 ?_
   refine f_ (pz_ X W a5 a7 zaa_ t B (λy U=>(Ax.check_co (Ax.tdy_twice I k U)).symm.trans S)) rfl i_ zf rfl λ⟨⟨a4,eh⟩,N⟩=>?_;dsimp only;try dsimp only at N
   refine Zi 11 (λe=>?_) λe=>?_
   .refine Zz 6 ?_
    have G:f=0:=by simpa using m
    have F:eg=0:=by simpa using e
    obtain⟨a9,hxy⟩:=(H G).2.2 F a4 eh N;refine Zi 2 (λd=>?_) λd=>?_
    .exact absurd a9 d
    refine Zz 6 ?_;refine d_ (ai_ (om_ sF_ rfl rfl) (show _=Value.bool true from yae_ Value.bool (by rw[hxy];simp))) rfl ?_;refine Zz 5 ?_;exact ee_
   refine Zz 4 ?_;have G:f=0:=by simpa using m
   obtain⟨hbx,F⟩:=(H G).2.1 e;refine Zz 2 ?_;refine d_ (aK_ rfl) rfl (Zz 1 ?_);cases bx
   .refine Zi 3 (λd=>?_) λd=>?_
    .exact absurd F d
    refine Zz 13 ?_;exact ee_
   exact absurd hbx zai_
  refine Zz 4 ?_;obtain⟨Y,hor⟩:=O m;refine Zi 4 (λe=>?_) λe=>?_
  .exact absurd (by rw[Y];rfl) e
  refine Zi 4 (λd=>?_) λd=>?_
  .refine Zi 5 (λM=>?_) λM=>?_
   .refine Zz 7 ?_
    refine F_ (aV_ rfl rfl) rfl λr_1 a6=>Zz 7 ?_
    exact ac_ results4 () (z_ rfl (by rw[<-a6];simpa using (hor.resolve_left d).resolve_left (λq=>q M))) i_ zt
   refine Zz 13 ?_;exact ee_
  refine Zz 17 ?_;exact ee_
 refine Zz 9 ?_;exact ee_
end Go.Proofs.YtbffkokbdeppaaaGreatDoor
