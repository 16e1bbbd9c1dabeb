/-
  Lemmas for the law ModuleGoal (no condition).
-/
import Derived.Test.YtbffkokbdeppaaaGreatDoorQModuleGoal12
set_option linter.unusedVariables false
set_option linter.unusedSimpArgs false
set_option linter.unusedSectionVars false
set_option maxHeartbeats 1000000
namespace Go.Proofs.YtbffkokbdeppaaaGreatDoor
open Go Go.Sx Go.Proofs Tryz
attribute [local irreducible] Code.wp wpList wpAnyH
open Go.Vs
structure PL where
  l:List Pc
  ad:Ao
  cap:Nat
def PL.cells (x:PL):List Value:=[.slice x.ad x.l.length x.cap]
theorem PL.cells_len (x:PL):x.cells.length=1:=rfl
structure PL.ok (x:PL):Prop where
  le:x.l.length<=x.cap
  nz:x.ad=none->x.cap=0
  sh:x.l.length<=100000
def plF (xs:List PL):Fct where
  p v:=∀ x∈xs,bW_ v x.ad (x.l.flatMap Pc.cells)
  mono:=λv v' h hp x hx=>(X_ x.ad (x.l.flatMap Pc.cells)).mono v v' h (hp x hx)
def hl_ (xs:List PL):List Pc:=List.flatMap PL.l xs
theorem uY_ {xs:List PL} {i:Nat} {x:PL} (h:xs[i]? = some x):hl_ (xs.take (i+1))=hl_ (xs.take i)++x.l:=by unfold hl_;rw[yau_,h];simp
theorem xQ_ {xs:List PL} (h:∀ x∈xs,x.ok) (i:Nat):(hl_ (xs.take i)).length<=min i xs.length*100000:=by
  have:=DF_ (g:=PL.l) (n:=100000) (xs.take i) λx d=>(h x (ybr_ d)).sh
  rwa [yaI_]at this
theorem CP_ (n:Nat) (x:n<=1000000000):Tri prog 93 #[.slice none 0 0,i4_ n] [] [] (λy:{y:Value×Hp // at_ 80 10 y.1 0 [] y.2}=>y.1.1) (λy=>y.1.2) (λ_=>[]):=by
 refine j_ func93 rfl rfl ntmps93 rfl λv=>?_;refine Zi 9 (λe=>?_) λe=>?_
 .refine Zz 10 ?_
  refine d_ (sy_ H_ rfl) rfl (Zz 3 ?_);refine d_ (ai_ (aC_ rfl rfl rfl (bx_ zaa_ zaa_)) (show i4_ ((n:Int) - (0 - 0))=i4_ n from yae_ _ zaa_)) rfl (Zi 6 (λd=>?_) λd=>?_)
  .refine Zz 12 ?_
   exact ac_ results93 ⟨(.slice none 0 0,[]),at_.nil _ _⟩ rfl i_ zt
  refine Zz 6 ?_;refine d_ (sy_ H_ rfl) rfl (d_ (ai_ (cD_ (i:=0) (j:=0) (kl:=.i64) (kh:=.i64) H_ K_ rfl rfl rfl zaa_ zaa_) (show _=Value.slice none 0 0 from rfl)) rfl (Zz 1 ?_));refine tu_ (n:=n) vE_ o_ rfl rfl zaa_ zaa_ zal_ rfl λk h m=>?_;refine Zz 2 ?_;refine d_ (ai_ (cD_ (i:=0) (j:=0) (kl:=.i64) (kh:=.i64) H_ K_ rfl rfl rfl zaa_ zaa_) (show _=Value.slice (some ⟨h,0,none⟩) 0 k.1 by simp[sU_])) rfl (Zz 10 ?_);exact ac_ results93 ⟨(.slice (some ⟨h,0,none⟩) 0 k.1,[(h,.cells k.2 80 (0,0))]),xs_ m.2.1 m.2.2⟩ rfl e_ zt
 exfalso;omega
theorem un_ (xs:List PL) (B:Ao) (A:Nat) (m:∀ x∈xs,x.ok) (hl:xs.length<=100):Tri prog 46 #[.slice B xs.length A] [] [X_ B (xs.flatMap PL.cells),plF xs] (λy:{y:Ao×Nat // ((hl_ xs)).length<=y.2/\y.2<=maxLen/\(y.1=none->y.2=0)}=>.slice y.1.1 ((hl_ xs)).length y.1.2) (λ_=>[]) (λy=>[X_ y.1.1 (((hl_ xs)).flatMap Pc.cells)]):=by
 refine j_ func46 rfl rfl ntmps46 rfl λa0=>?_;refine Zz 19 ?_;refine J_ (ι:={y:Nat×Nat // y.1<=List.length xs/\y.2<=y.1*100000}) (λy=>[(0,.slice B xs.length A),(3,i4_ y.1.2),(9,.slice B xs.length A),(10,i4_ (List.length xs:Int)),(11,i4_ y.1.1)]) (λy=>([])) (λy=>[X_ B (xs.flatMap PL.cells),plF xs]) (λy=>xs.length - y.1.1) ⟨((0:Nat),(0:Nat)),by simp,by simp⟩ zl i_ zh ?_;rintro ⟨⟨i,w⟩,hi,Z⟩;dsimp only at hi Z ⊢;refine Zi 2 (λF=>?_) λF=>?_
 .refine Zz 9 ?_
  refine f_ (CP_ w zaa_) rfl i_ zt rfl λ⟨⟨E,K⟩,L⟩=>?_;dsimp only;dsimp only at L;refine u_ ea_ ?_;have T:at_ 80 10 E (hl_ (xs.take 0)).length (List.flatMap Pc.cells (hl_ (xs.take 0))) K:=by exact L
  refine Zz 12 ?_;refine J_ (ι:={y:Nat×Value×Hp // y.1<=List.length xs/\zR 80 10 Pc.cells y.2.1 (hl_ (xs.take y.1)) y.2.2}) (λy=>[(0,.slice B xs.length A),(6,y.1.2.1),(25,.slice B xs.length A),(26,i4_ (List.length xs:Int)),(27,i4_ y.1.1)]) (λy=>(y.1.2.2)) (λy=>[X_ B (xs.flatMap PL.cells),plF xs]) (λy=>xs.length - y.1.1) ⟨((0:Nat),E,K),by simp,T⟩ zl Z_ zh ?_;rintro ⟨⟨j,W,X⟩,hj,k⟩;dsimp only at hj k ⊢;have Y:=xQ_ m j;refine Zi 2 (λG=>?_) λG=>?_
  .rw[yac_ zaa_]at k
   refine Zz 13 ?_;refine bQ_ k Z_ λP U O I H J=>?_;exact ac_ results46 ⟨(P,U),I,H,J⟩ (ec_ rfl O) i_ zf
  obtain⟨C,e,M,d⟩:=zge (show j<xs.length by omega);have N:=(m e d).sh;refine Zz 18 ?_;refine bK_ (news:=List.flatMap Pc.cells (PL.l e)) vE_ k rfl rfl (m e d).nz (m e d).le Z_ (by rw[ch_ Pc.cells 10 Pc.cells_len]) (λv _ h=>by exact (h.2.1 e d)) (λu hu=>aF_ Pc.cells_one hu) (by simp only[maxLen];(have:=(m e d).sh;omega)) (by (have:=(m e d).sh;omega)) rfl λQ V F=>?_;refine u_ yaE_ ?_;have S:=zsa F;refine Zz 8 ?_;exact w_ ⟨(j+1,Q,V),C,(by rw[uY_ M];exact S)⟩ zab_ zl Z_ zh
 obtain⟨C,e,M,d⟩:=zge (show i<xs.length by omega);have N:=(m e d).sh;refine Zi 27 (λG=>?_) λG=>?_
 .refine Zz 10 ?_
  exact w_ ⟨(i+1,w+List.length (PL.l e)),C,by have:=(m e d).sh;dsimp only;omega⟩ zab_ ⟨rfl,(bi_ rfl (by push_cast;rfl)),rfl,rfl,rfl,trivial⟩ i_ zh
 exfalso;omega
theorem zN_ (x y:Int):Fn0 prog 163 #[i4_ x,i4_ y] (i4_ (Lib.compareInt x y)):=by
 refine j_ func163 rfl rfl ntmps163 rfl λh=>?_;refine Zi 10 (λd=>?_) λd=>?_
 .refine Zi 10 (λe=>?_) λe=>?_
  .refine Zz 11 ?_
   exact ac_ results163 () (bi_ rfl (by unfold Lib.compareInt;rw[yag_ d,yag_ e])) i_ zt
  refine Zz 9 ?_;exact ac_ results163 () (bi_ rfl (by unfold Lib.compareInt;rw[yag_ d,yaq_ e])) i_ zt
 refine Zz 9 ?_;exact ac_ results163 () (bi_ rfl (by unfold Lib.compareInt;rw[yaq_ d])) i_ zt
theorem uS_ (x y:Str):Fn0 prog 166 #[str x,str y] (i4_ (Lib.compareBytes x y)):=by
 refine j_ func166 rfl rfl ntmps166 rfl λk=>?_;refine Zi 10 (λe=>?_) λe=>?_
 .refine Zz 10 ?_
  refine F_ (sw_ rfl rfl) rfl λh d=>Zz 2 ?_
  cases h
  .replace d:=zdf d
   refine Zz 9 ?_;exact ac_ results166 () (bi_ rfl (by rw[jw_,yag_ e,yag_ d])) i_ zt
  replace d:=zdt d;refine Zz 7 ?_;exact ac_ results166 () (bi_ rfl (by rw[jw_,yag_ e,yaq_ d])) i_ zt
 refine Zz 9 ?_;exact ac_ results166 () (bi_ rfl (by rw[jw_,yaq_ e])) i_ zt
def plf (x:Ax):Prop:=(x.left.kind=3/\x.left.parts=[])/\(x.right.kind=3/\x.right.parts=[])/\x.roles=[]/\x.role=[]/\x.a=[]/\x.b=[]
theorem hk_ (x:Int):Fn0 prog 163 #[i4_ x,i4_ x] (i4_ 0):=by
  grind[zN_,Lib.compareInt]
theorem nL_ (x:Str):Fn0 prog 166 #[str x,str x] (i4_ 0):=by
  grind[uS_,jw_]
theorem wo_ (c:Con) (e:c.ok) (m:c.sz<=1000) (x:c.parts=[]):Tri prog 165 #[Con.val c,Con.val c] [] [Con.memF c] (λ_:Unit=>i4_ 0) (λ_=>[]) (λ_=>[]):=by
 refine j_ func165 rfl rfl ntmps165 rfl λv=>?_;refine Zz 2 ?_;refine L_ rfl rfl λh=>L_ rfl rfl λk=>Zz 5 ?_
 refine G_ 4 [0,2] zk zs (Zz 3 ?_);refine m_ 1 rfl zk (f_ (nM_ _ c (yad_ _) e m) rfl i_ zf rfl λ_=>Zz 3 ?_);refine m_ 3 rfl zk (f_ (nM_ _ c (yad_ _) e m) rfl i_ zf rfl λ_=>Zz 3 ?_);refine m_ 4 rfl zk (f_ (hk_ (Con.sz c:Int)) rfl i_ zt rfl λ_=>Zz 3 ?_);refine G_ 0 [5] zk zs (Zz 8 ?_);refine d_ (ai_ (aV_ rfl rfl) (show _=Value.bool true from yae_ Value.bool zae_)) rfl (Zz 8 ?_);refine f_ (hk_ c.kind) rfl i_ zt rfl λ_=>Zz 7 ?_
 refine d_ (ai_ (aV_ rfl rfl) (show _=Value.bool true from yae_ Value.bool zae_)) rfl (Zz 8 ?_);refine f_ (nL_ c.name) rfl i_ zt rfl λ_=>Zz 7 ?_
 refine d_ (ai_ (aV_ rfl rfl) (show _=Value.bool true from yae_ Value.bool zae_)) rfl (Zz 8 ?_);refine f_ (hk_ c.lo) rfl i_ zt rfl λ_=>Zz 7 ?_
 refine d_ (ai_ (aV_ rfl rfl) (show _=Value.bool true from yae_ Value.bool zae_)) rfl (Zz 8 ?_);refine f_ (hk_ c.hi) rfl i_ zt rfl λ_=>Zz 10 ?_
 refine J_ (ι:={y:Nat // y=0}) (λy=>[(2,zp_ h 0),(3,zp_ k 0),(4,i4_ 0),(5,i4_ 0),(6,i4_ y.1)]) (λy=>((k,.cells (Con.cells c).toArray 28 (0,0))::((h,.cells (Con.cells c).toArray 28 (0,0))::[]))) (λy=>[Con.memF c]) (λy=>0) ⟨(0:Nat),rfl⟩ zl zp zh ?_;rintro ⟨i,hi⟩;dsimp only at hi ⊢;refine Zz 4 ?_;refine d_ (ai_ (aV_ rfl rfl) (show _=Value.bool true from yae_ Value.bool zae_)) rfl (Zi 10 (λd=>?_) λd=>?_)
 .refine Zz 17 ?_
  refine d_ (ai_ (aV_ rfl rfl) (show _=Value.bool true from yae_ Value.bool zae_)) rfl (Zz 10 ?_);refine f_ (hk_ (List.length c.parts:Int)) rfl i_ zt rfl λ_=>Zz 10 ?_
  exact ac_ results165 () rfl i_ zt
 exfalso;rw[x]at d;simp only[yay_]at d;omega
theorem wn_ (x:Ax) (m:x.ok) (G:x.left.sz<=1000) (F:x.right.sz<=1000) (y:plf x):Tri prog 164 #[Ax.val x] [] [Ax.memF x] (λ_:Unit=>i4_ (((List.length x.roles:Int)+(Con.sz x.left:Int))+(Con.sz x.right:Int))) (λ_=>[]) (λ_=>[]):=by
 refine j_ func164 rfl rfl ntmps164 rfl λH=>?_;have I:=m.cap;refine Zz 2 ?_;refine L_ rfl rfl λJ=>Zi 17 (λB=>?_) λB=>?_
 .exfalso;have E:=y.1.1;have A:=y.2.1.1;omega
 refine Zz 7 ?_;refine f_ (nM_ _ x.left (yad_ _) m.left G) rfl i_ (λv _ h=>by exact⟨h.1.1,trivial⟩) rfl λ_=>Zi 10 (λC=>?_) λC=>?_
 .exfalso;have E:=y.1.1;have A:=y.2.1.1;omega
 refine Zz 7 ?_;refine f_ (nM_ _ x.right (yad_ _) m.right F) rfl i_ (λv _ h=>by exact⟨h.1.2.1,trivial⟩) rfl λ_=>Zi 9 (λk=>?_) λk=>?_
 .refine Zi 10 (λe=>?_) λe=>?_
  .refine Zi 10 (λd=>?_) λd=>?_
   .refine Zz 12 ?_
    exact ac_ results164 () (bi_ rfl zaa_) i_ zt
   exact absurd y.2.2.2.2.2 d
  exact absurd y.2.2.2.2.1 e
 exact absurd y.2.2.2.1 k
theorem xK_ (x:Ax) (e:x.ok) (m:x.left.sz<=1000) (k:x.right.sz<=1000) (A:plf x):Tri prog 76 #[Ax.val x,Ax.val x] [] [Ax.memF x] (λ_:Unit=>i4_ 0) (λ_=>[]) (λ_=>[]):=by
 refine j_ func76 rfl rfl ntmps76 rfl λE=>?_;refine Zz 2 ?_;refine L_ rfl rfl λB=>L_ rfl rfl λC=>Zz 5 ?_
 refine G_ 4 [0,2] zk zs (Zz 3 ?_);refine m_ 1 rfl zk (f_ (wn_ x e m k A) rfl i_ zf rfl λ_=>Zz 3 ?_);refine m_ 3 rfl zk (f_ (wn_ x e m k A) rfl i_ zf rfl λ_=>Zz 3 ?_);refine m_ 4 rfl zk (f_ (hk_ (((List.length x.roles:Int)+(Con.sz x.left:Int))+(Con.sz x.right:Int))) rfl i_ zt rfl λ_=>Zz 3 ?_);refine G_ 0 [5] zk zs (Zz 8 ?_);refine d_ (ai_ (aV_ rfl rfl) (show _=Value.bool true from yae_ Value.bool zae_)) rfl (Zz 8 ?_);refine f_ (hk_ x.kind) rfl i_ zt rfl λ_=>Zz 7 ?_
 refine d_ (ai_ (aV_ rfl rfl) (show _=Value.bool true from yae_ Value.bool zae_)) rfl (Zz 8 ?_);refine f_ (wo_ x.left e.left m A.1.2) rfl i_ (λv _ h=>by exact⟨h.1.1,trivial⟩) rfl λ_=>Zz 7 ?_
 refine d_ (ai_ (aV_ rfl rfl) (show _=Value.bool true from yae_ Value.bool zae_)) rfl (Zz 8 ?_);refine f_ (wo_ x.right e.right k A.2.1.2) rfl i_ (λv _ h=>by exact⟨h.1.2.1,trivial⟩) rfl λ_=>Zz 10 ?_
 refine J_ (ι:={y:Nat // y=0}) (λy=>[(2,zp_ B 0),(3,zp_ C 0),(4,i4_ 0),(5,i4_ 0),(6,i4_ y.1)]) (λy=>((C,.cells (Ax.cells x).toArray 30 (0,0))::((B,.cells (Ax.cells x).toArray 30 (0,0))::[]))) (λy=>[Ax.memF x]) (λy=>0) ⟨(0:Nat),rfl⟩ zl zp zh ?_;rintro ⟨i,hi⟩;dsimp only at hi ⊢;refine Zz 4 ?_;refine d_ (ai_ (aV_ rfl rfl) (show _=Value.bool true from yae_ Value.bool zae_)) rfl (Zi 10 (λd=>?_) λd=>?_)
 .refine Zz 17 ?_
  refine d_ (ai_ (aV_ rfl rfl) (show _=Value.bool true from yae_ Value.bool zae_)) rfl (Zz 10 ?_);refine f_ (hk_ (List.length x.roles:Int)) rfl i_ zt rfl λ_=>Zz 7 ?_
  refine d_ (ai_ (aV_ rfl rfl) (show _=Value.bool true from yae_ Value.bool zae_)) rfl (Zz 8 ?_);refine f_ (nL_ x.role) rfl i_ zt rfl λ_=>Zz 7 ?_
  refine d_ (ai_ (aV_ rfl rfl) (show _=Value.bool true from yae_ Value.bool zae_)) rfl (Zz 8 ?_);refine f_ (nL_ x.a) rfl i_ zt rfl λ_=>Zz 7 ?_
  refine d_ (ai_ (aV_ rfl rfl) (show _=Value.bool true from yae_ Value.bool zae_)) rfl (Zz 8 ?_);refine f_ (nL_ x.b) rfl i_ zt rfl λ_=>Zz 10 ?_
  exact ac_ results76 () rfl i_ zt
 exfalso;rw[A.2.2.1]at d;simp only[yay_]at d;omega
theorem xy_ (x:Ax) (h:x.ok) (m:x.left.sz<=1000) (e:x.right.sz<=1000) (y:plf x):Tri prog 34 #[Ax.val x,Ax.val x] [] [Ax.memF x] (λ_:Unit=>.bool true) (λ_=>[]) (λ_=>[]):=by
 refine j_ func34 rfl rfl ntmps34 rfl λv=>?_;refine Zz 2 ?_;refine L_ rfl rfl λA=>L_ rfl rfl λB=>Zz 9 ?_
 refine F_ (om_ sF_ rfl rfl) rfl λk d=>Zz 1 ?_
 cases k
 .exfalso;simp at d
 refine Zz 5 ?_;refine f_ (xK_ x h m e y) rfl i_ zf rfl λ_=>ar_ rfl rfl (d_ (ai_ (aV_ rfl rfl) (show _=Value.bool true from yae_ Value.bool zae_)) rfl (Zz 5 ?_))
 exact ac_ results34 () rfl i_ zt
end Go.Proofs.YtbffkokbdeppaaaGreatDoor
namespace Go.Vs
open Go Go.Sx Go.Proofs.YtbffkokbdeppaaaGreatDoor
structure Rcd.ok (x:Rcd):Prop where
  a:x.a.length<=x.acap/\x.acap<=maxLen/\(x.aad=none->x.acap=0)
  r:x.r.length<=x.rcap/\x.rcap<=maxLen/\(x.rad=none->x.rcap=0)
  f:x.f.length<=x.fcap/\x.fcap<=maxLen/\(x.fad=none->x.fcap=0)
end Go.Vs
namespace Go.Proofs.YtbffkokbdeppaaaGreatDoor
open Go Go.Sx Go.Proofs Tryz
attribute [local irreducible] Code.wp wpList wpAnyH
open Go.Vs
theorem bu_:KeyT prog 9 str:=tL_ aB_
theorem qz_ (l:List Ax) (ad:Ao) (cap:Nat) (B:∀ x∈l,x.ok) (F:∀ x∈l,x.check=0) (G:l.length<=100000):Tri prog 129 #[.slice ad l.length cap] [] [bZ_ ad l,bE_] (λ_:Unit=>i4_ 0) (λ_=>[]) (λ_=>[]):=by
 refine j_ func129 rfl rfl ntmps129 rfl λE=>?_;refine Zz 14 ?_;refine J_ (ι:={y:Nat // y<=List.length l}) (λy=>[(2,i4_ 0),(6,.slice ad l.length cap),(7,i4_ (List.length l:Int)),(8,i4_ y.1)]) (λy=>([])) (λy=>[bZ_ ad l,bE_]) (λy=>l.length - y.1) ⟨(0:Nat),by simp⟩ zl i_ zh ?_;rintro ⟨i,A⟩;dsimp only at A ⊢;refine Zi 2 (λm=>?_) λm=>?_
 .refine Zz 12 ?_
  exact ac_ results129 () rfl i_ zt
 obtain⟨k,e,C,d⟩:=zge (show i<l.length by omega);refine Zz 12 ?_;refine C_ aA_ rfl λH=>p_ 0 I_ rfl rfl rfl rfl rfl rfl (Zz 5 ?_)
 refine f_ (yM_ (B e d) (F e d)) rfl i_ (λv _ h=>by exact⟨(h.1.2 e d),h.2.1,trivial⟩) rfl λ_=>Zz 6 ?_
 refine d_ (ai_ (cq_ rfl rfl) (show _=Value.bool false from yae_ Value.bool zae_)) rfl (Zz 10 ?_);exact w_ ⟨i+1,k⟩ zab_ zl i_ zh
theorem he_ {G:Prop} (h:G:=by
 have d:Ax.selfs x=m:=by rw[hm,yac_ zaa_];rfl
 exact ac_ results213 () (z_ rfl (by unfold Ax.exm;rw[k,d];rw[ybh_];simp only[yaL_,ybs_,yci_,ybv_,ybO_,yah_,ydc_,v,true_and,false_and,true_iff,ybV_,false_iff,reduceCtorEq];omega)) i_ zt):G:=h
theorem AO_ (x:Ax) (i:Nat) (L:x.ok) (hi:i<x.roles.length):Tri prog 213 #[Ax.val x,i4_ i] [] [Ax.memF x] (λ_:Unit=>.bool (x.exm i)) (λ_=>[]) (λ_=>[]):=by
 refine j_ func213 rfl rfl ntmps213 rfl λN=>?_;have O:=L.cap;obtain⟨Q,k⟩:∃ r,x.roles[i]? = some r:=⟨_,yaa_ hi⟩;refine Zz 2 ?_;refine L_ rfl rfl λG=>Zz 6 ?_
 refine G_ 0 [0,1,2,3,4,5,6,7] zk zs (Zi 7 (λC=>?_) λC=>?_)
 .have v:Q=Ax.role x:=by simpa using C
  refine Zz 29 ?_;refine J_ (ι:={y:Nat×Nat // y.1<=List.length x.roles/\y.2=List.countP (λr=>decide (r=x.role)) (x.roles.take y.1)}) (λy=>[(1,i4_ i),(2,zp_ G 0),(4,.bool false),(5,i4_ (List.length x.roles:Int)),(6,i4_ y.1.2),(21,.slice x.ad x.roles.length x.cap),(22,i4_ (List.length x.roles:Int)),(23,i4_ y.1.1)]) (λy=>((G,.cells (Ax.cells x).toArray 30 (0,0))::[])) (λy=>[Ax.memF x]) (λy=>x.roles.length - y.1.1) ⟨((0:Nat),(0:Nat)),by simp,zai_⟩ zl e_ zh ?_;rintro ⟨⟨j,m⟩,H,hm⟩;dsimp only at H hm ⊢;refine Zi 2 (λI=>?_) λI=>?_
  .refine Zi 9 (λe=>?_) λe=>?_
   .refine Zi 14 (λB=>?_) λB=>?_
    .refine Zz 11 ?_
     exact he_
    refine Zz 5 ?_;refine F_ (aV_ rfl rfl) rfl λM A=>Zz 7 ?_
    have d:Ax.selfs x=m:=by rw[hm,yac_ zaa_];rfl
    exact ac_ results213 () (z_ rfl (by rw[<-A];unfold Ax.exm;rw[k,d];rw[ybh_];simp only[yaL_,ybs_,yci_,ybv_,ybO_,yah_,ydc_,v,true_and,false_and,true_iff,ybV_,false_iff,reduceCtorEq];omega)) i_ zt
   refine Zi 4 (λB=>?_) λB=>?_
   .refine Zz 7 ?_
    refine d_ (ai_ (aC_ rfl rfl rfl (bx_ zaa_ zaa_)) (show _=i4_ ((List.length x.roles:Int) - 1) from rfl)) rfl (ar_ rfl rfl ?_);refine Zi 0 (λA=>?_) λA=>?_
    .refine Zi 7 (λJ=>?_) λJ=>?_
     .refine Zz 11 ?_
      exact he_
     refine Zz 5 ?_;refine F_ (aV_ rfl rfl) rfl λM F=>Zz 7 ?_
     have d:Ax.selfs x=m:=by rw[hm,yac_ zaa_];rfl
     exact ac_ results213 () (z_ rfl (by rw[<-F];unfold Ax.exm;rw[k,d];rw[ybh_];simp only[yaL_,ybs_,yci_,ybv_,ybO_,yah_,ydc_,v,true_and,false_and,true_iff,ybV_,false_iff,reduceCtorEq];omega)) i_ zt
    refine Zz 15 ?_;exact he_
   refine Zz 21 ?_;exact he_
  have h:j<x.roles.length:=by omega
  obtain⟨P,E⟩:∃ K,x.roles[j]? = some K:=⟨_,yaa_ h⟩;refine Zi 20 (λe=>?_) λe=>?_
  .refine Zz 10 ?_
   exact w_ ⟨(j+1,m),h,zbE_⟩ zab_ zl e_ zh
  refine Zz 5 ?_;refine d_ (ai_ (aC_ rfl rfl rfl (bx_ zaL_ zaL_)) (show _=i4_ ((m+1:Nat):Int) from yae_ _ zaa_)) rfl ?_;refine Zz 8 ?_;exact w_ ⟨(j+1,(m+1)),h,zbE_⟩ zab_ zl e_ zh
 refine Zz 10 ?_;exact ac_ results213 () (z_ rfl (by unfold Ax.exm;rw[k];simp[C])) i_ zt
theorem mw_ {G:Prop} (h:G:=by
 refine ts_ (k:=r) (s:=s) (e:=e) bu_ (.inr rfl) du_ G h (by rw[v];simp) rfl rfl rfl Z_ λA d=>?_;refine u_ ea_ (Zz 2 ?_);exact cj_ results212 ⟨(ks,A),d,λk hk=>.inl hk⟩ rfl Z_ zt):G:=h
theorem mx_ {G:Prop} (h:G:=by
 refine ts_ (k:=r) (s:=s) (e:=e) bu_ (.inr rfl) du_ d x (by rw[v];simp) rfl rfl rfl Z_ λB C=>?_;refine u_ ea_ (Zz 2 ?_);exact cj_ results212 ⟨((ks++[(r,E)]),B),C,λk hk=>by rw[yaz_,yai_]at hk;exact hk.imp id zai_⟩ rfl Z_ zt):G:=h
theorem xd_ (r s:Str) (e:Bool) (cb H:Nat) (ks:List (Str×Nat)) (S:List RSt) (Hx:Hp) (G:MmO H ks S Hx):Tri prog 212 #[str r,str s,.bool e,zp_ cb 0] Hx [bk_ cb (.cells #[.map (some H)] 186 (0,0))] (λ_:{y:List (Str×Nat)×Hp // MmO H y.1 (S++[(r,s,e)]) y.2/\∀ k∈y.1.map (·.1),k∈ks.map (·.1)\/k=r}=>.tuple #[]) (λy=>y.1.2) (λ_=>[]):=by
 refine j_ func212 rfl rfl ntmps212 rfl λK=>?_;refine Zz 5 ?_;refine d_ (fs_ (k:=r) bu_ dt_ gh_ G rfl rfl Z_) rfl (F_ (yY_ underlying151 rfl rfl) rfl λI m=>Zz 2 ?_);cases I
 .replace m:=zdf m
  obtain⟨J,h⟩:=ybT_.1 m;refine Zz 6 ?_;refine d_ (ai_ (fs_ (k:=r) bu_ dt_ gh_ G rfl rfl Z_) (yae_ nv_ h)) rfl (Zz 3 ?_);refine d_ (ai_ (fs_ (k:=r) bu_ dt_ gh_ G rfl rfl Z_) (yae_ nv_ h)) rfl (Zz 1 ?_);refine F_ (kl_ (k:=r) (s:=s) bu_ du_ bC_ G h rfl rfl Z_) rfl λF v=>Zz 1 ?_
  cases F
  .refine Zz 3 ?_
   exact mw_
  refine Zz 2 ?_;exact mw_
 replace m:=zdt m;refine Zz 4 ?_;refine bt_ rfl λE=>Ab_ (k:=r) bu_ (.inr rfl) dt_ G m rfl rfl rfl (l_ e_ Z_) λA d=>u_ ea_ ?_
 have x:dc_ (ks++[(r,E)]) r=some E:=sO_ m;refine Zz 5 ?_;refine d_ (ai_ (fs_ (k:=r) bu_ dt_ gh_ d rfl rfl Z_) (yae_ nv_ x)) rfl (Zz 3 ?_);refine d_ (ai_ (fs_ (k:=r) bu_ dt_ gh_ d rfl rfl Z_) (yae_ nv_ x)) rfl (Zz 1 ?_);refine F_ (kl_ (k:=r) (s:=s) bu_ du_ bC_ d x rfl rfl Z_) rfl λF v=>Zz 1 ?_
 cases F
 .refine Zz 3 ?_
  exact mx_
 refine Zz 2 ?_;exact mx_
theorem BW_ (l:List Ax) (ad:Ao) (cap:Nat) (a5:∀ x∈l,x.ok) (hC:∀ x∈l,x.check=0) (hll:l.length<=100000):Tri prog 131 #[.slice ad l.length cap] [] [bZ_ ad l] (λy:{y:Nat×List (Str×Nat)×Hp // MmO y.1 y.2.1 (dB_ l) y.2.2/\Frm y.2.1 (dB_ l)}=>.map (some y.1.1)) (λy=>y.1.2.2) (λ_=>[]):=by
 refine j_ func131 rfl rfl ntmps131 rfl λv_1=>?_;refine Zz 7 ?_;refine bt_ rfl λI=>C_ zeroValue186 rfl λJ=>p_ 0 sizeOf186 rfl rfl rfl rfl rfl rfl (Zz 4 ?_)
 refine d_ (bo_ rfl rfl) rfl (Zz 12 ?_);refine hK_ 0 rfl ?_;refine J_ (ι:={y:Nat×List (Str×Nat)×Hp // y.1<=List.length l/\MmO I y.2.1 (dB_ (l.take y.1)) y.2.2/\Frm y.2.1 (dB_ (l.take y.1))}) (λy=>[(2,.map none),(3,zp_ J 0),(4,.func (.func 212) #[] #[zp_ J 0]),(11,.slice ad l.length cap),(12,i4_ (List.length l:Int)),(13,i4_ y.1.1)]) (λy=>(y.1.2.2)) (λy=>[bk_ J (.cells #[.map (some I)] 186 (0,0)),bZ_ ad l]) (λy=>l.length - y.1.1) ⟨((0:Nat),[],[(I,.map #[] 0)]),by simp,(by rw[ybH_];exact MmO.nil I 0),Frm.nil⟩ zl e_ zh ?_;rintro ⟨⟨i,M,K⟩,Z,F,E⟩;dsimp only at Z F E ⊢;refine Zi 2 (λa2=>?_) λa2=>?_
 .refine Zz 13 ?_
  have a4:List.take i l=l:=yac_ zaa_;rw[a4]at F E;exact ac_ results131 ⟨(I,M,K),F,E⟩ rfl Z_ zt
 obtain⟨H,d,C,k⟩:=zge (show i<l.length by omega);have a0:=Ax.good_of (hC d k);refine Zz 12 ?_;refine C_ aA_ rfl λX=>p_ 0 I_ rfl rfl rfl rfl rfl rfl (Zi 11 (λB=>?_) λB=>?_)
 .refine Zi 6 (λm=>?_) λm=>?_
  .refine Zz 11 ?_
   exact w_ ⟨(i+1,M,K),H,(by rw[dL_ C,Ax.steps_no B m,yas_];exact F),(by rw[dL_ C,Ax.steps_no B m,yas_];exact E)⟩ zab_ zl E_ zh
  have hch:=a0.chain m;refine Zz 13 ?_;refine J_ (ι:={y:Nat×List (Str×Nat)×Hp // y.1<=List.length d.roles/\MmO I y.2.1 ((dB_ (l.take i))++Ax.chs d y.1) y.2.2/\Frm y.2.1 ((dB_ (l.take i))++Ax.chs d y.1)}) (λy=>[(2,.map none),(3,zp_ J 0),(4,.func (.func 212) #[] #[zp_ J 0]),(11,.slice ad l.length cap),(12,i4_ (List.length l:Int)),(13,i4_ i),(6,zp_ X 0),(39,.slice d.ad d.roles.length d.cap),(40,i4_ (List.length d.roles:Int)),(41,i4_ y.1.1)]) (λy=>((X,.cells (Ax.cells d).toArray 30 (0,0))::y.1.2.2)) (λy=>[bk_ J (.cells #[.map (some I)] 186 (0,0)),bZ_ ad l]) (λy=>d.roles.length - y.1.1) ⟨((0:Nat),M,K),by simp,(by rw[Ax.chs,yas_];exact F),E.more⟩ zl zp zh ?_;rintro ⟨⟨j,U,S⟩,a1,P,O⟩;dsimp only at a1 P O ⊢;refine Zi 2 (λY=>?_) λY=>?_
  .refine Zz 11 ?_
   exact w_ ⟨(i+1,U,S),H,(by rw[dL_ C,Ax.steps_six m,show d.roles.length=j from zaa_];exact P),(by rw[dL_ C,Ax.steps_six m,show d.roles.length=j from zaa_];exact O)⟩ zab_ zl E_ zh
  have A:j<d.roles.length:=by omega
  obtain⟨W,e⟩:∃ V,d.roles[j]? = some V:=⟨_,yaa_ A⟩;refine Zz 11 ?_;refine d_ (P_ n_ D_ rfl rfl (λv _ h=>av_ (n:=1) an_ zae_ zbC_ e) zaa_ zag_) rfl ?_;refine d_ (bw_ (ad:=d.ad) W_ rfl (λv _ h=>by exact (h.2.1.2 d k).2.2) (A_ an_ e 0 _ rfl)) rfl (Zz 8 ?_);refine aq_ (AO_ d j (a5 d k) A) rfl i_ (λv _ h=>by exact⟨(h.2.1.2 d k),trivial⟩) rfl λa3 N=>d_ (aK_ rfl) rfl (Zz 2 ?_)
  cases a3
  .refine Zz 6 ?_
   refine O_ (xd_ W d.role true J I U ((dB_ (l.take i))++Ax.chs d j) S P) rfl rfl E_ zf rfl λ⟨⟨Q,T⟩,L,G⟩=>?_;dsimp only;dsimp only at L G;refine Zz 2 ?_;refine u_ (aW_ aJ_) (Zz 5 ?_);exact w_ ⟨(j+1,Q,T),A,(by rw[Ax.chs_no e N,<-yap_];exact L),(by rw[Ax.chs_no e N,<-yap_];exact O.add G)⟩ zab_ zl zp zh
  refine Zz 8 ?_;exact w_ ⟨(j+1,U,S),A,(by rw[Ax.chs_yes e N];exact P),(by rw[Ax.chs_yes e N];exact O)⟩ zab_ zl zp zh
 have a6:=a0.one B;have A:0<d.roles.length:=by omega
 obtain⟨W,e⟩:∃ V,d.roles[0]? = some V:=⟨_,yaa_ A⟩;refine Zz 6 ?_;refine G_ 0 [0,1,2,3,4,5,6] zk zs (Zz 2 ?_);refine N_ rfl (P_ n_ D_ rfl rfl (λv _ h=>av_ (n:=1) an_ zae_ zbC_ e) zaa_ zag_) rfl ?_;refine N_ rfl (bw_ (ad:=d.ad) W_ rfl (λv _ h=>by exact (h.2.1.2 d k).2.2) (A_ an_ e 0 _ rfl)) rfl (Zi 2 (λm=>?_) λm=>?_)
 .refine Zz 11 ?_
  exact w_ ⟨(i+1,M,K),H,(by rw[dL_ C,Ax.steps_same B e m,yas_];exact F),(by rw[dL_ C,Ax.steps_same B e m,yas_];exact E)⟩ zab_ zl E_ zh
 refine Zz 4 ?_;refine Y_ ((X,.cells (Ax.cells d).toArray 30 (0,0))::[]) zk ?_;refine G_ 1 [0,1,2,3,4,5,6] zk zs (Zz 3 ?_);refine N_ rfl (P_ n_ D_ rfl rfl (λv _ h=>av_ (n:=1) an_ zae_ zbC_ e) zaa_ zag_) rfl ?_;refine N_ rfl (bw_ (ad:=d.ad) W_ rfl (λv _ h=>by exact (h.2.1.2 d k).2.2) (A_ an_ e 0 _ rfl)) rfl (Zz 3 ?_);refine m_ 7 rfl zk (O_ (xd_ W d.role false J I M (dB_ (l.take i)) K F) rfl rfl E_ zf rfl λ⟨⟨Q,T⟩,L,G⟩=>?_);dsimp only;dsimp only at L G;refine Zz 5 ?_;refine u_ (aW_ aJ_) (Zz 5 ?_);exact w_ ⟨(i+1,Q,T),H,(by rw[dL_ C,Ax.steps_five B e m];exact L),(by rw[dL_ C,Ax.steps_five B e m];exact E.add G)⟩ zab_ zl E_ zh
def uf_ (e:Nat×Bool):List Value:=[.int .i64 (e.1:Int),.bool e.2]
theorem py_ (e:Nat×Bool):(uf_ e).length=2:=rfl
theorem AP_ (e:Nat×Bool):(uf_ e).all Value.oneCell'=true:=rfl
structure Grw where
  st:List (Nat×Bool)
  ad:Ao
  cap:Nat
def Grw.cells (x:Grw):List Value:=[.slice x.ad x.st.length x.cap]
theorem Grw.cells_len (x:Grw):x.cells.length=1:=rfl
theorem Grw.cells_one (x:Grw):x.cells.all Value.oneCell'=true:=rfl
def iy_ (X:List Grw):Fct where
  p v:=∀ y∈X,bW_ v y.ad (y.st.flatMap uf_)
  mono v v' h hp y hy:=(X_ y.ad (y.st.flatMap uf_)).mono v v' h (hp y hy)
theorem vy_ {X:List Grw} {y:Grw} {v:Vw} (h:(iy_ X).p v) (e:(X_ y.ad (y.st.flatMap uf_)).p v):(iy_ (X++[y])).p v:=λz d=>by
 rcases yai_.1 d with d|d
 .exact h z d
 rw[yam_]at d;subst d;exact e
def wyC (w:Wy):List Value:=[.int .i64 (w.role:Int),.bool w.strict,.int .i64 (w.before:Int),.int .i64 (w.many:Int)]
theorem nG_ (w:Wy):(wyC w).length=4:=rfl
theorem vW_ (w:Wy):(wyC w).all Value.oneCell'=true:=rfl
theorem iY_ {l:List Str} (hl:l.Nodup):SrS (cg_ l):=by
  have e:=kW_ l;have d:(cg_ l).Nodup:=(ycp_ _ _).nodup_iff.2 hl;unfold List.Nodup at d;refine ycu_ (fun {a b} hab=>?_) (e.and d)
  grind
theorem SrS.nd {l:List Str} (h:SrS l):l.Nodup:=h.imp λd e=>by grind
theorem bs_lo {R:List Str} (h:SrS R) {m:Nat} {x t:Str} (d:R[m]? = some x) (hl:x<t):∀ (a:Nat) y,a<m+1->R[a]? = some y->y<t:=by grind[uT_]
theorem bs_hi {R:List Str} (h:SrS R) {m:Nat} {x t:Str} (d:R[m]? = some x) (hl:¬ x<t):∀ (a:Nat) y,m<=a->R[a]? = some y->¬ y<t:=by grind[uT_]
theorem DH_ {R:List Str} (h:SrS R) {m:Nat} {t:Str} (d:∀ (a:Nat) y,a<m->R[a]? = some y->y<t) (k:∀ (a:Nat) y,m<=a->R[a]? = some y->¬ y<t) (e:R[m]? ≠ some t):t ∉ R:=by grind[List.getElem?_of_mem,uT_]
section
variable {P:Program} {N:Nf} {fr:Fr} {H:Hp} {Γ:List Fct} {ty:TypeId}
theorem yX_ {t k:TypeId} {x y:Operand} {C:IntKind} {m:Nat} (B:Fr.ev fr x=some (.int .u64 (m:Int))) (h:Fr.ev fr y=some (.int C 1)):Yld P N fr H Γ (.binOp .shr t x y k) ty (.int .u64 ((m / 2:Nat):Int)) :=
  λa v d _ _ _ _ _=>by
    have e:¬ ((1:Int)<0):=by omega
    have A:(m:Int).fdiv 2=(m:Int) / 2:=Int.fdiv_eq_ediv_of_nonneg _ zae_;simp[execOp,d.ev B,d.ev h,eqGuard,binOp,Op.shift,e,IntKind.bits,A]
end
def GrR (S:List RSt) (R:List Str) (r:Str) (ss:List Str) (L:List (Nat×Bool)):Prop:=∀ j c,(j,c)∈L↔∃ s,s∈ss/\R[j]? = some s/\c=flg S r s
theorem GrR.nil {S:List RSt} {R:List Str} {r:Str}:GrR S R r [] []:=λj c=>by simp
theorem GrR.yes {S:List RSt} {R:List Str} {r s:Str} {ss:List Str} {L:List (Nat×Bool)} {n:Nat} (h:GrR S R r ss L) (e:R.Nodup) (d:R[n]? = some s):GrR S R r (ss++[s]) (L++[(n,flg S r s)]):=λj c=>by
  rw[yai_,h,yam_,ybN_]
  grind[Ae_]
theorem GrR.no {S:List RSt} {R:List Str} {r s:Str} {ss:List Str} {L:List (Nat×Bool)} (h:GrR S R r ss L) (d:s ∉ R):GrR S R r (ss++[s]) L:=λj c=>by
  rw[h]
  grind
structure GrI (S:List RSt) (R:List Str) (X:List Grw) (i:Nat):Prop where
  len:X.length=i
  row:∀ (k:Nat) (r:Str) (y:Grw),R[k]? = some r->X[k]? = some y->GrR S R r (cg_ (ik S r)) y.st
  short:∀ y∈X,y.st.length<=S.length
theorem GrI.nil {S:List RSt} {R:List Str}:GrI S R [] 0:=⟨rfl,λk r y _ h=>by simp at h,by simp⟩
theorem GrI.snoc {S:List RSt} {R:List Str} {X:List Grw} {i:Nat} {r:Str} {y:Grw} (h:GrI S R X i) (x:R[i]? = some r) (v:GrR S R r (cg_ (ik S r)) y.st) (e:y.st.length<=S.length):GrI S R (X++[y]) (i+1):=by
 refine⟨by grind[len],λk q z m d=>?_,λz d=>by rcases yai_.1 d with d|d;exact h.short z d;grind⟩;rcases Nat.lt_or_ge k X.length with g|g
 .rw[ybF_ g]at d;exact h.row k q z m d
 grind[len]
theorem GrI.done {S:List RSt} {ks:List (Str×Nat)} {X:List Grw} (m:Frm ks S) (v:∀ z∈S,z.1∈ks.map (·.1)) (k:(ks.map (·.1)).Nodup) (h:GrI S (cg_ (ks.map (·.1))) X (cg_ (ks.map (·.1))).length):GrO S (cg_ (ks.map (·.1))) (X.map Grw.st):=by
 refine⟨by grind[len],SrS.nd (iY_ k),λr=>?_,λi r l e hl j c=>?_⟩
 .rw[ybx_]
  constructor
  .exact m r
  grind
 rw[yaM_,ycf_]at hl;obtain⟨y,d,rfl⟩:=hl;rw[h.row i r y e d j c]
 grind[List.mem_mergeSort,rU_]
theorem BQ_:gr_ prog 252 [(0,1),(1,1)] [i4_ 0,.bool false]:=⟨_,zeroValue252,runUnderlying252,λw=>by simp[R_,bn_]⟩
theorem rt_:gr_ prog 256 [(0,1),(1,1),(2,1),(3,1)] [i4_ 0,.bool false,i4_ 0,i4_ 0]:=⟨_,qf_,runUnderlying256,λw=>by simp[R_,bn_]⟩
theorem CY_:Elt prog 248 252 2 16:=fT_ underlying248 (z:=.agg #[i4_ 0,.bool false]) zad_ rfl zae_
theorem CX_:Elt prog 182 248 1 24:=fT_ underlying182 (z:=.slice none 0 0) zad_ rfl zae_
theorem AT_:Elt prog 257 256 4 32:=fT_ underlying257 (z:=.agg #[i4_ 0,.bool false,i4_ 0,i4_ 0]) zad_ rfl zae_
theorem AD_ (s:Str):Fn0 prog 285 #[str s] (.bool false):=by
  refine j_ func285 rfl rfl ntmps285 rfl λd=>?_;refine Zz 9 ?_;refine d_ (ai_ (dQ_ rfl rfl) (show _=Value.bool false from yae_ Value.bool zai_)) rfl (Zz 4 ?_);exact ac_ results285 () rfl i_ zt
theorem yH_ (x y:Str):Fn0 prog 264 #[str x,str y] (.bool (decide (x<y))):=by
  refine j_ func264 rfl rfl ntmps264 rfl λe=>?_;refine Zz 8 ?_;refine f_ (rM_ x) rfl i_ zt rfl λ_=>Zz 11 ?_
  refine F_ (gG_ rfl rfl) rfl λh d=>Zz 5 ?_
  exact ac_ results264 () (z_ rfl (by rw[<-d])) i_ zt
theorem binS_c (R:List Str) (ad:Ao) (cap:Nat) (t:Str) (hS:SrS R) (hl:R.length<=100000000):Tri prog 211 #[.slice ad R.length cap,str t] [] [X_ ad (R.flatMap aa_)] (λy:{y:Nat×Bool // (y.2=true->R[y.1]? = some t)/\(y.2=false->t ∉ R)}=>.tuple #[i4_ y.1.1,.bool y.1.2]) (λ_=>[]) (λ_=>[]):=by
 refine j_ func211 rfl rfl ntmps211 rfl λL=>?_;refine Zz 22 ?_;refine J_ (ι:={y:Nat×Nat // y.1<=y.2/\y.2<=List.length R/\(∀ (a:Nat) (z:Str),a<y.1->R[a]? = some z->z<t)/\(∀ (a:Nat) (z:Str),y.2<=a->R[a]? = some z->¬ z<t)}) (λy=>[(0,.slice ad R.length cap),(1,str t),(6,i4_ (List.length R:Int)),(7,i4_ y.1.1),(8,i4_ y.1.2)]) (λy=>([])) (λy=>[X_ ad (R.flatMap aa_)]) (λy=>y.1.2 - y.1.1) ⟨((0:Nat),R.length),zaa_,zaa_,(λa y h=>absurd h zab_),(λa y h e=>by have:=(yaf_.1 e).1;dsimp only at h;omega)⟩ zl i_ zh ?_;rintro ⟨⟨lo,hi⟩,I,J,E,hB⟩;dsimp only at I J E hB ⊢;refine Zi 5 (λC=>?_) λC=>?_
 .obtain rfl:lo=hi:=by omega
  refine Zi 10 (λd=>?_) λd=>?_
  .refine Zz 24 ?_
   exact eI_ results211 ⟨(lo,false),λq=>(by cases q),λ_=>DH_ hS E hB (λq=>by have:=(yaf_.1 q).1;omega)⟩ rfl rfl rfl i_ zt
  have x:lo<R.length:=by omega
  obtain⟨M,v⟩:∃ m,R[lo]? = some m:=⟨_,yaa_ x⟩;refine Zi 12 (λk=>?_) λk=>?_
  .refine Zz 11 ?_
   refine f_ (AD_ M) rfl i_ zt rfl λ_=>Zz 14 ?_
   exact eI_ results211 ⟨(lo,false),λq=>(by cases q),λ_=>DH_ hS E hB (λq=>by rw[v]at q;exact k (yba_ q))⟩ rfl rfl rfl i_ zt
  refine Zz 19 ?_;exact eI_ results211 ⟨(lo,true),λ_=>by rw[v,k],λq=>by cases q⟩ rfl rfl rfl i_ zt
 have G:(lo+hi) / 2<R.length:=by omega
 have B:((lo+hi) / 2)<R.length:=G;obtain⟨K,A⟩:∃ m,R[((lo+hi) / 2)]? = some m:=⟨_,yaa_ B⟩;refine Zz 10 ?_;refine d_ (ai_ (aC_ rfl rfl rfl (bx_ zaa_ zaa_)) (show _=i4_ ((lo+hi:Nat):Int) from yae_ _ zaa_)) rfl (d_ (vV_ o_ underlying231 rfl (wrapU zaa_ zaa_)) rfl (d_ (yX_ rfl rfl) rfl (d_ (vV_ underlying231 o_ rfl (bx_ zaa_ zaa_)) rfl (Zz 10 ?_))));refine aq_ (yH_ K t) rfl i_ zt rfl λF d=>Zz 2 ?_
 cases F
 .replace d:=zdf d
  refine Zz 6 ?_;exact w_ ⟨(lo,((lo+hi) / 2)),zaa_,zaa_,E,bs_hi hS A d⟩ zab_ zl i_ zh
 replace d:=zdt d;refine Zz 3 ?_;refine d_ (ai_ (aC_ rfl rfl rfl (bx_ zaa_ zaa_)) (show _=i4_ (((lo+hi) / 2+1:Nat):Int) from yae_ _ zaa_)) rfl (Zz 3 ?_);exact w_ ⟨(((lo+hi) / 2+1),hi),zaa_,J,bs_lo hS A d,hB⟩ zab_ zl i_ zh
end Go.Proofs.YtbffkokbdeppaaaGreatDoor
namespace Go.Proofs.YtbffkokbdeppaaaGreatDoor
open Go Go.Sx Go.Proofs Tryz
attribute [local irreducible] Code.wp wpList wpAnyH
open Go.Vs
theorem zt_ {ks:List (Str×Nat)} {k:Str} (h:k∈ks.map (·.1)):∃ b,dc_ ks k=some b:=by
  cases e:dc_ ks k<;>grind[eR_]
theorem vx_ {S:List RSt} {r:Str}:(ik S r).length<=S.length:=by
  have h:(ik S r) ⊆ S.map (·.2.1):=λs d=>by
    grind[rU_]
  have:=(DE_ S r).length_le_of_subset h
  grind
theorem vg_ (m:Nat) (ks:List (Str×Nat)) (S:List RSt) (Hx:Hp) (hT0:MmO m ks S Hx) (hF:Frm ks S) (hkl:ks.length<=100000) (hSl:S.length<=100000):Tri prog 130 #[.map (some m)] Hx [] (λy:{y:List Grw×Ao×Nat×Ao×Nat // GrO S (cg_ (List.map (λp:Str×Nat=>p.1) ks)) (y.1.map Grw.st)/\(∀ z∈y.1,z.st.length<=S.length)/\y.1.length=List.length ks/\(List.length (cg_ (List.map (λp:Str×Nat=>p.1) ks))<=y.2.2.1/\y.2.2.1<=maxLen/\(y.2.1=none->y.2.2.1=0))/\(List.length y.1<=y.2.2.2.2/\y.2.2.2.2<=maxLen/\(y.2.2.2.1=none->y.2.2.2.2=0))}=>.agg #[.slice y.1.2.1 (List.length (cg_ (List.map (λp:Str×Nat=>p.1) ks))) y.1.2.2.1,.slice y.1.2.2.2.1 y.1.1.length y.1.2.2.2.2]) (λ_=>[]) (λy=>[X_ y.1.2.1 (List.flatMap aa_ (cg_ (List.map (λp:Str×Nat=>p.1) ks))),X_ y.1.2.2.2.1 (y.1.1.flatMap Grw.cells),iy_ y.1.1]):=by
 obtain⟨es,T,E,rfl,hE⟩:=hT0;refine j_ func130 rfl rfl ntmps130 rfl λv_1=>?_;refine Zz 2 ?_;refine C_ zeroValue184 rfl λB=>Zz 5 ?_
 refine f_ (CB_ m) rfl i_ zt rfl λbx=>?_;refine f_ (lJ_ 284 [zp_ bx 0] [(bx,.cells #[.map (some m)] 186 (0,0)),(m,.map es T)] (List.map (λp:Str×Nat=>p.1) ks) hE.nd zap_ (CI_ m bx T es (List.map (λp:Str×Nat=>p.1) ks) ⟨hE.keys,hE.nd⟩ hE.born zap_)) rfl zp zt rfl λ⟨⟨rad,rcap⟩,a1,a3,a2⟩=>?_;dsimp only;have hrl:List.length (cg_ (List.map (λp:Str×Nat=>p.1) ks))=ks.length:=by rw[yaX_,yaC_]
 refine Zz 1 ?_;refine p_ 2 dG_ rfl rfl rfl rfl rfl rfl (Zz 12 ?_);refine u_ (l_ e_ (l_ (c_ e_) (l_ e_ Z_))) ?_;try simp only[yas_]
 have hT:MmO m ks S ((m,.map es T)::List.map (ha_ E) ks):=⟨es,T,E,rfl,hE⟩;refine u_ (H':=((bx,.cells #[.map (some m)] 186 (0,0))::((B,.cells #[.slice rad (List.length (cg_ (List.map (λp:Str×Nat=>p.1) ks))) rcap,.slice none 0 0] 184 (0,0))::(((m,.map es T)::List.map (ha_ E) ks)++([]:Hp))))) (List.Perm.cons _ (List.Perm.cons _ (ycG_ (yas_ _).symm))) ?_;refine J_ (ι:={y:Nat×List Grw×Value×Hp // y.1<=List.length (cg_ (List.map (λp:Str×Nat=>p.1) ks))/\GrI S (cg_ (List.map (λp:Str×Nat=>p.1) ks)) y.2.1 y.1/\zR 248 1 Grw.cells y.2.2.1 y.2.1 y.2.2.2}) (λy=>[(0,.map (some m)),(2,zp_ B 0),(15,.slice rad (List.length (cg_ (List.map (λp:Str×Nat=>p.1) ks))) rcap),(16,i4_ (List.length (cg_ (List.map (λp:Str×Nat=>p.1) ks)):Int)),(17,i4_ y.1.1)]) (λy=>((B,.cells #[.slice rad (List.length (cg_ (List.map (λp:Str×Nat=>p.1) ks))) rcap,y.1.2.2.1] 184 (0,0))::(((m,.map es T)::List.map (ha_ E) ks)++y.1.2.2.2))) (λy=>[X_ rad (List.flatMap aa_ (cg_ (List.map (λp:Str×Nat=>p.1) ks))),iy_ y.1.2.1]) (λy=>List.length (cg_ (List.map (λp:Str×Nat=>p.1) ks)) - y.1.1) ⟨((0:Nat),([]:List Grw),(.slice none 0 0),([]:Hp)),by simp,GrI.nil,(at_.nil _ _)⟩ zl zp (λv _ h=>by exact⟨h.1,(show (iy_ ([]:List Grw)).p v from λz hz=>by simp at hz),trivial⟩) ?_;rintro ⟨⟨i,X,U,F⟩,d2,M,K⟩;dsimp only at d2 M K ⊢;refine Zi 2 (λJ=>?_) λJ=>?_
 .refine Zz 7 ?_
  refine bQ_ K (c_ aJ_) λb3 W d1 a6 a5 a8=>?_;subst d1;refine Zz 2 ?_;refine p_ 0 sizeOf184 rfl rfl rfl rfl rfl rfl (Zz 3 ?_);exact dk_ ⟨(X,rad,rcap,b3,W),(by rw[show i=List.length (cg_ (List.map (λp:Str×Nat=>p.1) ks)) from by omega]at M;exact GrI.done hF hE.all hE.nd M),M.short,M.len.trans zaa_,⟨a1,a3,a2⟩,⟨a6,a5,a8⟩⟩ (λaa v h_1 h_2=>dm_ (us:=[.slice rad (List.length (cg_ (List.map (λp:Str×Nat=>p.1) ks))) rcap,.slice b3 X.length W]) 0 results130 isAgg184 sizeOf184 rfl rfl rfl aa v h_1 h_2) i_ zf
 have I:i<List.length (cg_ (List.map (λp:Str×Nat=>p.1) ks)):=by omega
 obtain⟨d,Z⟩:∃ a0,(cg_ (List.map (λp:Str×Nat=>p.1) ks))[i]? = some a0:=⟨_,yaa_ I⟩;have a9:d∈(cg_ (List.map (λp:Str×Nat=>p.1) ks)):=yab_ Z;refine Zz 22 ?_;have hkm:d∈(List.map (λp:Str×Nat=>p.1) ks):=ybx_.1 a9;obtain⟨bk,N⟩:=zt_ hkm;refine Zz 3 ?_;refine d_ (ai_ (fs_ (k:=d) bu_ dt_ gh_ hT rfl rfl zp) (yae_ nv_ N)) rfl (f_ (wA_ bk) rfl i_ zt rfl λby_=>?_);obtain⟨b5,cb,Hr,O,P,b0,_⟩:=hT.at N;refine u_ (l_ e_ (l_ e_ (x_ aJ_ Z_))) ?_;try simp only[yas_]
 refine u_ (List.Perm.cons _ (List.Perm.cons _ (ybl_ F O))) (f_ (lJ_ 193 [zp_ by_ 0] [(by_,.cells #[.map (some bk)] 151 (0,0)),(bk,.map b5 cb)] (ik S d) (DE_ S d) (by have:=vx_ (S:=S) (r:=d);omega) (wC_ bk by_ cb b5 (ik S d) ⟨P.keys,P.nd⟩ b0 (by have:=vx_ (S:=S) (r:=d);omega))) rfl (l_ e_ (c_ (g_ e_))) zt rfl λ⟨⟨sad,b6⟩,hss_1,hss_2,hss_3⟩=>?_);dsimp only;have hsl:List.length (cg_ (ik S d))=List.length (ik S d):=yaX_ _;have hil:=vx_ (S:=S) (r:=d);refine Zz 5 ?_;refine u_ (l_ e_ (l_ (c_ e_) (x_ (c_ s_) (l_ e_ Z_)))) ?_;try simp only[yas_]
 refine u_ (List.Perm.cons _ (List.Perm.cons _ (ybl_ F O.symm))) (u_ (H':=((by_,.cells #[.map (some bk)] 151 (0,0))::((B,.cells #[.slice rad (List.length (cg_ (List.map (λp:Str×Nat=>p.1) ks))) rcap,U] 184 (0,0))::(F++(((m,.map es T)::List.map (ha_ E) ks)++([]:Hp)))))) (List.Perm.cons _ (List.Perm.cons _ (ybl_ F (ycG_ (yas_ _).symm)))) ?_);refine J_ (ι:={y:Nat×List (Nat×Bool)×Value×Hp // y.1<=List.length (cg_ (ik S d))/\GrR S (cg_ (List.map (λp:Str×Nat=>p.1) ks)) d (List.take y.1 (cg_ (ik S d))) y.2.1/\y.2.1.length<=y.1/\zR 252 2 uf_ y.2.2.1 y.2.1 y.2.2.2}) (λy=>[(0,.map (some m)),(2,zp_ B 0),(15,.slice rad (List.length (cg_ (List.map (λp:Str×Nat=>p.1) ks))) rcap),(16,i4_ (List.length (cg_ (List.map (λp:Str×Nat=>p.1) ks)):Int)),(17,i4_ i),(4,str d),(5,y.1.2.2.1),(25,.slice sad (cg_ (ik S d)).length b6),(26,i4_ (List.length (cg_ (ik S d)):Int)),(27,i4_ y.1.1)]) (λy=>((B,.cells #[.slice rad (List.length (cg_ (List.map (λp:Str×Nat=>p.1) ks))) rcap,U] 184 (0,0))::(F++(((m,.map es T)::List.map (ha_ E) ks)++y.1.2.2.2)))) (λy=>[X_ sad (List.flatMap aa_ (cg_ (ik S d))),X_ rad (List.flatMap aa_ (cg_ (List.map (λp:Str×Nat=>p.1) ks))),iy_ X]) (λy=>List.length (cg_ (ik S d)) - y.1.1) ⟨((0:Nat),([]:List (Nat×Bool)),(.slice none 0 0),([]:Hp)),by simp,(by rw[ybH_];exact GrR.nil),zai_,(at_.nil _ _)⟩ zl zp zh ?_;rintro ⟨⟨j,L,a7,b4⟩,b7,hL,hLl,e⟩;dsimp only at b7 hL hLl e ⊢;refine Zi 2 (λG=>?_) λG=>?_
 .refine Zz 6 ?_
  refine bQ_ e (c_ (g_ aJ_)) λlad lcap b8 hclad hmlad hzlad=>?_;subst b8;refine Zz 4 ?_;refine B_ runUnderlying182 sizeOf248 zeroValue248 rfl rfl rfl rfl rfl rfl λb_2=>?_;refine aH_ (news:=List.flatMap Grw.cells [(Grw.mk L lad lcap)]) CX_ K rfl rfl (c_ (c_ s_)) rfl (bz_ 0 rfl) (λu hu=>aF_ Grw.cells_one hu) zaR_ zaX_ rfl λC H J=>?_;have A:=zsa J;refine Zz 1 ?_;refine u_ (S_ (g_ e_) (aW_ (g_ e_))) (bT_ 1 A sizeOf182 rfl rfl rfl rfl (Zz 7 ?_));exact w_ ⟨(i+1,(X++[(Grw.mk L lad lcap)]),C,H),I,M.snoc Z (by have q:=hL;rw[yac_ zaa_]at q;exact q) zab_,A⟩ zab_ zl (l_ (c_ e_) (x_ (c_ aJ_) E_)) (λv _ h=>by exact⟨h.2.2.1,vy_ h.2.2.2.1 h.1,trivial⟩)
 have x:j<List.length (cg_ (ik S d)):=by omega
 obtain⟨c0,V⟩:∃ a0,(cg_ (ik S d))[j]? = some a0:=⟨_,yaa_ x⟩;refine Zz 20 ?_;refine f_ (binS_c (cg_ (List.map (λp:Str×Nat=>p.1) ks)) rad rcap c0 (iY_ hE.nd) zaa_) rfl i_ zf rfl λ⟨⟨b9,c2⟩,Y,Q⟩=>?_;dsimp only;dsimp only at Y Q;refine Zz 12 ?_;cases c2
 .refine Zz 8 ?_
  exact w_ ⟨(j+1,L,a7,b4),x,(by rw[take_snoc V];exact hL.no (Q rfl)),zab_,e⟩ zab_ zl zp zh
 refine Zz 6 ?_;refine d_ (ai_ (fs_ (k:=d) bu_ dt_ gh_ hT rfl rfl zp) (yae_ nv_ N)) rfl (Zz 1 ?_);refine F_ (kl_ (k:=d) (s:=c0) bu_ du_ bC_ hT N rfl rfl zp) rfl λd0 c1=>d_ (y_ BQ_ rfl rfl) rfl (B_ runUnderlying248 sizeOf252 zeroValue252 rfl rfl rfl rfl rfl rfl λb_2=>?_)
 refine aH_ (news:=List.flatMap uf_ [(Prod.mk b9 d0)]) CY_ e rfl rfl (c_ (c_ (g_ aJ_))) rfl (bz_ 0 rfl) (λu hu=>aF_ AP_ hu) zaR_ zaX_ rfl λC H G=>?_;have A:=zsa G;refine Zz 3 ?_;refine u_ (S_ (g_ e_) (aW_ (g_ e_))) (Zz 5 ?_);exact w_ ⟨(j+1,(L++[(Prod.mk b9 d0)]),C,H),x,(by rw[take_snoc V,<-c1];exact hL.yes (SrS.nd (iY_ hE.nd)) (Y rfl)),zbn_,A⟩ zab_ zl zp zh
theorem mv_ {G:Prop} (h:G:=by
 refine u_ ea_ (Zz 14 ?_);exact w_ ⟨(k+1,(List.set (List.set M k d) (Int.toNat ((List.length L:Int) - 1 - (k:Int))) h),v,B),(by have q:=V.step F (show M[List.length L - 1 - k]? = some d from by rw[show L.length - 1 - k=(Int.toNat ((List.length L:Int) - 1 - (k:Int))) by omega];exact x) m;rw[show L.length - 1 - k=(Int.toNat ((List.length L:Int) - 1 - (k:Int))) by omega]at q;exact q),O,E⟩ zab_ ⟨rfl,rfl,(bi_ rfl zab_),trivial⟩ Z_ zt):G:=h
theorem xH_ (L:List Int) (sv:Value) (Hr:Hp) (X:zR 3 1 dl_ sv L Hr) (hl:L.length<=1000000000):Tri prog 214 #[sv] Hr [] (λ_:{H:Hp // zR 3 1 dl_ sv L.reverse H}=>.tuple #[]) (λy=>y.1) (λ_=>[]):=by
 refine j_ func214 rfl rfl ntmps214 rfl λZ=>?_;refine Zz 3 ?_;refine d_ (cm_ X as_ rfl) rfl (Zz 6 ?_);refine bF_ [(0,sv),(2,i4_ 0),(3,i4_ ((List.length L:Int) - 1 - ((0:Nat):Int)))] ⟨rfl,rfl,(bi_ rfl zaa_),trivial⟩ ?_;refine J_ (ι:={y:Nat×List Int×Value×Hp // RevI L y.2.1 y.1/\y.2.2.1=sv/\zR 3 1 dl_ y.2.2.1 y.2.1 y.2.2.2}) (λy=>[(0,y.1.2.2.1),(2,i4_ y.1.1),(3,i4_ ((List.length L:Int) - 1 - (y.1.1:Int)))]) (λy=>(y.1.2.2.2)) (λy=>[]) (λy=>L.length - y.1.1) ⟨((0:Nat),L,sv,Hr),RevI.zero L,rfl,X⟩ zl Z_ zt ?_;rintro ⟨⟨k,M,v,W⟩,V,O,e⟩;dsimp only at V O e ⊢;refine Zi 5 (λC=>?_) λC=>?_
 .refine Zz 5 ?_
  have eM:=V.done C;subst eM;rw[O]at e;exact cj_ results214 ⟨W,e⟩ rfl Z_ zt
 have F:=C;have Y:=V.len;have T:(Int.toNat ((List.length L:Int) - 1 - (k:Int)))<M.length:=by omega
 obtain⟨d,x⟩:∃ P,M[(Int.toNat ((List.length L:Int) - 1 - (k:Int)))]? = some P:=⟨_,yaa_ T⟩;have S:k<M.length:=by omega
 obtain⟨h,m⟩:∃ P,M[k]? = some P:=⟨_,yaa_ S⟩;refine Zz 7 ?_;refine Y_ ([]) zk ?_;refine G_ 6 [0,1,2,3,4,5,6,8,9,10] zk zs (Zz 6 ?_);refine N_ rfl (bH_ e as_ R_ rfl rfl zaa_ zaa_) rfl (Zz 2 ?_);refine N_ rfl (bH_ e as_ R_ rfl rfl zaa_ zaa_) rfl (bX_ ?_);refine dz_ 7 11 rfl rfl zk ?_ ?_
 .refine d_ (cS_ e Z_ bb_ rfl (A_ dV_ x 0 _ rfl)) rfl (Zz 3 ?_)
  refine m_ 11 rfl zk (d_ (cS_ e Z_ bb_ rfl (A_ dV_ m 0 _ rfl)) rfl (Zz 3 ?_));refine G_ 3 [12] zk zs (N_ rfl (bH_ e as_ R_ rfl rfl zaa_ zaa_) rfl (bX_ (m_ 13 rfl zk (eS_ (k:=(k:Int).toNat*1+0) e Z_ R_ rfl rfl zaa_ rfl rfl λK C=>?_))));have I:=(iq_ dl_ 1 dV_ M k 0 h d (i4_ d) m zae_ rfl).trans (yae_ _ (rfl));have A:at_ 3 1 v (List.set M k d).length (List.flatMap dl_ (List.set M k d)) K:=by rw[<-I,show List.length (List.set M k d)=M.length from (ybp_ ..)];exact C
  refine u_ ea_ (Zz 3 ?_);refine m_ 14 rfl zk ?_;have G:(List.set M k d)[(Int.toNat ((List.length L:Int) - 1 - (k:Int)))]? = some d:=by rw[ycD_ zaa_];exact x
  have Q:(Int.toNat ((List.length L:Int) - 1 - (k:Int)))<List.length (List.set M k d):=by rw[ybp_];omega
  refine d_ (bH_ A as_ R_ rfl rfl zaa_ zaa_) rfl (Zz 3 ?_);refine m_ 15 rfl zk (eS_ (k:=((Int.toNat ((List.length L:Int) - 1 - (k:Int))):Int).toNat*1+0) A Z_ R_ rfl rfl zaa_ rfl rfl λB N=>?_);have J:=(iq_ dl_ 1 dV_ (List.set M k d) (Int.toNat ((List.length L:Int) - 1 - (k:Int))) 0 d h (i4_ h) G zae_ rfl).trans (yae_ _ (rfl));have E:at_ 3 1 v (List.length (List.set (List.set M k d) (Int.toNat ((List.length L:Int) - 1 - (k:Int))) h)) (List.flatMap dl_ (List.set (List.set M k d) (Int.toNat ((List.length L:Int) - 1 - (k:Int))) h)) B:=by rw[<-J,show List.length (List.set (List.set M k d) (Int.toNat ((List.length L:Int) - 1 - (k:Int))) h)=List.length (List.set M k d) from (ybp_ ..)];exact N
  exact mv_
 refine d_ (cS_ e Z_ bb_ rfl (A_ dV_ m 0 _ rfl)) rfl (Zz 3 ?_);refine m_ 7 rfl zk (d_ (cS_ e Z_ bb_ rfl (A_ dV_ x 0 _ rfl)) rfl (Zz 3 ?_));refine G_ 3 [12] zk zs (N_ rfl (bH_ e as_ R_ rfl rfl zaa_ zaa_) rfl (bX_ (m_ 13 rfl zk (eS_ (k:=(k:Int).toNat*1+0) e Z_ R_ rfl rfl zaa_ rfl rfl λK N=>?_))));have I:=(iq_ dl_ 1 dV_ M k 0 h d (i4_ d) m zae_ rfl).trans (yae_ _ (rfl));have A:at_ 3 1 v (List.set M k d).length (List.flatMap dl_ (List.set M k d)) K:=by rw[<-I,show List.length (List.set M k d)=M.length from (ybp_ ..)];exact N
 refine u_ ea_ (Zz 3 ?_);refine m_ 14 rfl zk ?_;have G:(List.set M k d)[(Int.toNat ((List.length L:Int) - 1 - (k:Int)))]? = some d:=by rw[ycD_ zaa_];exact x
 have Q:(Int.toNat ((List.length L:Int) - 1 - (k:Int)))<List.length (List.set M k d):=by rw[ybp_];omega
 refine d_ (bH_ A as_ R_ rfl rfl zaa_ zaa_) rfl (Zz 3 ?_);refine m_ 15 rfl zk (eS_ (k:=((Int.toNat ((List.length L:Int) - 1 - (k:Int))):Int).toNat*1+0) A Z_ R_ rfl rfl zaa_ rfl rfl λB U=>?_);have J:=(iq_ dl_ 1 dV_ (List.set M k d) (Int.toNat ((List.length L:Int) - 1 - (k:Int))) 0 d h (i4_ h) G zae_ rfl).trans (yae_ _ (rfl));have E:at_ 3 1 v (List.length (List.set (List.set M k d) (Int.toNat ((List.length L:Int) - 1 - (k:Int))) h)) (List.flatMap dl_ (List.set (List.set M k d) (Int.toNat ((List.length L:Int) - 1 - (k:Int))) h)) B:=by rw[<-J,show List.length (List.set (List.set M k d) (Int.toNat ((List.length L:Int) - 1 - (k:Int))) h)=List.length (List.set M k d) from (ybp_ ..)];exact U
 exact mv_
def b2C (e:Bool×Bool):List Value:=[.bool e.1,.bool e.2]
theorem lA_ (e:Bool×Bool):(b2C e).length=2:=rfl
structure SeenI (W:List Wy) (B:List (Bool×Bool)) (n:Nat):Prop where
  len:B.length=n
  at':∀ r,r<n->B[r]? = some (pn_ W r false,pn_ W r true)
theorem yr_ (W:List Wy) (w:Wy) (r:Nat) (b:Bool):pn_ (W++[w]) r b=(pn_ W r b||(w.role==r&&w.strict==b)):=by simp[pn_]
theorem SeenI.push {W:List Wy} {B:List (Bool×Bool)} {n r:Nat} {b:Bool} {bf m:Nat} {u:Bool×Bool} (h:SeenI W B n) (e:B[r]? = some u):SeenI (W++[⟨r,b,bf,m⟩]) (B.set r (if b then (u.1,true) else (true,u.2))) n:=by
  have k:=(yaf_.1 e).1;have hl:=h.len;refine⟨by grind,λq d=>?_⟩;have v:=h.at' q d
  grind[yr_]
theorem SeenI.init {n s:Nat} (k:s<n):SeenI [⟨s,false,0,0⟩] (List.set (List.replicate n (false,false)) s (true,false)) n:=by
  have e:SeenI [] (List.replicate n (false,false)) n:=⟨ych_,λr h=>by rw[ycs_,yaq_ h];rfl⟩;have d:(List.replicate n (false,false))[s]? = some (false,false):=by grind
  have:=e.push (b:=false) (bf:=0) (m:=0) d
  grind
def CirR (G:List (List (Nat×Bool))) (start most:Nat) (L:List Int) (ad:Ao) (cap:Nat):Prop :=
  (L=[]/\ad=none/\cap=0/\∀ (n:Nat) (f:Nat->Nat) (c:Nat->Bool),Clw (gE G) n f c->f 0=start->most<=n)\/
  (ad≠none/\(∃ n,Clo (gE G) n)/\(∀ x∈L,0<=x/\x<(G.length:Int))/\L.length<=2*G.length+1)
theorem iT_ {P:Program} {N:Nf} {fr:Fr} {H:Hp} {Γ:List Fct} {t e ty:TypeId} {x y:Operand} {b k i:Nat} (h:∀ w,(underlying t).run P w=.ok (.array 2 e) w) (m:∀ w,(sizeOf e).run P w=.ok 1 w) (v:Fr.ev fr x=some (zp_ b k)) (d:Fr.ev fr y=some (i4_ i)) (hi:i<2) :
    Yld P N fr H Γ (.indexAddr t x y) ty (.pointer (some ⟨b,k+i,none⟩)):=by
  have:=db_ (P:=P) (N:=N) (fr:=fr) (H:=H) (Γ:=Γ) (ty:=ty) h m v d zaa_ zaa_
  grind
theorem at_.lit {e:TypeId} {sz b:Nat} {xs:List Value} {n:Nat} (hl:xs.length=n*sz) (d:n<=maxLen):at_ e sz (.slice (some ⟨b,0,none⟩) n n) n xs [(b,.cells xs.toArray e (0,0))] :=
  ⟨hl,.inr ⟨b,n,xs.toArray,rfl,rfl,yad_ _,d,by omega,by grind⟩⟩
theorem mu_ {G:Prop} (h:G:=by
 have Z:=U;refine Zz 8 ?_;exact w_ ⟨(k+1,a4,N,K,O,I,a5),(J.skip G hGw S (λq=>by have F:=hcll;rw[q.2]at F;simp[q.1]at F) (by rw[V];have F:=Z;rw[hbe]at F;exact F)),M,G,a1,A,C⟩ zab_ zl (l_ (c_ e_) (l_ (c_ e_) (x_ (c_ s_) E_))) zh):G:=h
theorem Bg_ (R:List Str) (rad:Ao) (rcap:Nat) (X:List Grw) (a3:Ao) (a7 d most:Nat) (hlen:X.length=R.length) (hs:d<X.length) (hto:∀ (i:Nat) (l:List (Nat×Bool)),(X.map Grw.st)[i]? = some l->∀ s∈l,s.1<((X.map Grw.st)).length) (hXl:X.length<=100000) (hrows:∀ y∈X,y.st.length<=100000000) (hmost:most<=200000):Tri prog 132 #[.agg #[.slice rad R.length rcap,.slice a3 X.length a7],i4_ d,i4_ most] [] [X_ rad (R.flatMap aa_),X_ a3 (X.flatMap Grw.cells),iy_ X] (λy:{y:List Int×Ao×Nat // CirR (X.map Grw.st) d most y.1 y.2.1 y.2.2/\y.1.length<=y.2.2/\y.2.2<=maxLen/\(y.2.1=none->y.2.2=0)}=>.slice y.1.2.1 y.1.1.length y.1.2.2) (λ_=>[]) (λy=>[X_ y.1.2.1 (y.1.1.flatMap dl_)]):=by
 refine j_ func132 rfl rfl ntmps132 rfl λv_1=>?_;refine Zz 2 ?_;refine L_ rfl rfl λa2=>Zz 3 ?_
 refine qt_ (Zz 3 ?_);refine d_ (y_ rt_ rfl rfl) rfl (B_ en_ gJ_ qf_ rfl rfl rfl rfl rfl rfl λb_2=>Zz 4 ?_);have hqW:at_ 256 4 (.slice (some ⟨b_2,0,none⟩) 1 1) (List.length [(Wy.mk d false 0 0)]) (List.flatMap wyC [(Wy.mk d false 0 0)]) [(b_2,.cells #[i4_ d,.bool false,i4_ (0:Int),i4_ (0:Int)] 256 (0,0))]:=at_.lit rfl zae_;refine u_ (H':=([(b_2,.cells #[i4_ d,.bool false,i4_ (0:Int),i4_ (0:Int)] 256 (0,0))]++((a2,.cells #[.slice rad R.length rcap,.slice a3 X.length a7] 184 (0,0))::[]))) (List.Perm.refl _) (Zz 4 ?_);refine nc_ (n:=R.length) (by':=2) underlying258 (z:=.agg #[.bool false,.bool false]) zk rfl zae_ rfl rfl zaa_ zal_ rfl λsvB HrB hrB=>?_;have hqB:at_ 259 2 svB (List.replicate R.length (false,false)).length (List.flatMap b2C (List.replicate R.length (false,false))) HrB:=by rw[ych_,<-oe_ b2C];exact hrB
 have hzl:List.length (List.replicate R.length (false,false))=R.length:=ych_;have hz_1:(List.replicate R.length (false,false))[d]? = some (false,false):=by rw[ycs_,yaq_ zaa_]
 refine Zz 3 ?_;refine u_ (aW_ (g_ aJ_)) (Zz 4 ?_);refine d_ (bH_ hqB jY_ zF_ rfl rfl zaa_ zaa_) rfl (d_ (iT_ (i:=0) jX_ bn_ rfl rfl zae_) rfl (eS_ (k:=(d:Int).toNat*2+0) hqB zp bn_ rfl rfl zaa_ rfl rfl λHr_1 hr_1=>?_));have hs_1:=(iq_ b2C 2 lA_ (List.replicate R.length (false,false)) d 0 (false,false) (true,false) (.bool true) hz_1 zae_ rfl).trans (yae_ _ (rfl));have hq_1:at_ 259 2 svB (List.set (List.replicate R.length (false,false)) d (true,false)).length (List.flatMap b2C (List.set (List.replicate R.length (false,false)) d (true,false))) Hr_1:=by rw[<-hs_1,show List.length (List.set (List.replicate R.length (false,false)) d (true,false))=List.length (List.replicate R.length (false,false)) from (ybp_ ..)];exact hr_1
 refine Zz 3 ?_;refine qv_ (Zz 2 ?_);refine u_ (aW_ (g_ e_)) (Zz 6 ?_);refine J_ (ι:={y:Nat×List Wy×List (Bool×Bool)×Value×Hp×Value×Hp // BI (X.map Grw.st) d y.2.1 y.1 0/\SeenI y.2.1 y.2.2.1 X.length/\y.1<=List.length y.2.1/\zR 256 4 wyC y.2.2.2.1 y.2.1 y.2.2.2.2.1/\zR 259 2 b2C y.2.2.2.2.2.1 y.2.2.1 y.2.2.2.2.2.2}) (λy=>[(1,i4_ d),(2,i4_ most),(3,zp_ a2 0),(6,.slice none 0 0),(7,y.1.2.2.2.1),(8,y.1.2.2.2.2.2.1),(9,i4_ y.1.1)]) (λy=>((a2,.cells #[.slice rad R.length rcap,.slice a3 X.length a7] 184 (0,0))::(y.1.2.2.2.2.1++y.1.2.2.2.2.2.2))) (λy=>[X_ rad (R.flatMap aa_),X_ a3 (X.flatMap Grw.cells),iy_ X]) (λy=>2*X.length - y.1.1) ⟨((0:Nat),[(Wy.mk d false 0 0)],(List.set (List.replicate R.length (false,false)) d (true,false)),(.slice (some ⟨b_2,0,none⟩) 1 1),[(b_2,.cells #[i4_ d,.bool false,i4_ (0:Int),i4_ (0:Int)] 256 (0,0))],svB,Hr_1),BI.init (by rw[yaC_];exact hs),(by rw[hlen];exact SeenI.init zaa_),zai_,hqW,hq_1⟩ zl zp zh ?_;rintro ⟨⟨a,W,Bl,K,O,I,a5⟩,hI,hSn,ha,A,C⟩;dsimp only at hI hSn ha A C ⊢;refine Zz 5 ?_;refine d_ (cm_ A en_ rfl) rfl ?_;refine Zi 0 (λhr_1=>?_) λhr_1=>?_
 .refine Zz 12 ?_
  exact ac_ results132 ⟨([],none,0),.inl ⟨rfl,rfl,rfl,λn f c hc hf=>hI.none (λw hw=>by have:=(yaf_.1 hw).1;omega) hto hc hf⟩,by simp[maxLen]⟩ rfl i_ (λv _ h=>⟨.inl rfl,trivial⟩)
 have hlw_1:a<W.length:=by omega
 obtain⟨E,a8⟩:∃ B,W[a]? = some B:=⟨_,yaa_ hlw_1⟩;have hrole:=hI.role a E a8;rw[yaC_]at hrole;have hmny:=hI.many a E a8;have hWl:=hI.len;rw[yaC_]at hWl;have hly_1:(Wy.role E)<X.length:=hrole;obtain⟨H,hy_1⟩:∃ B,X[(Wy.role E)]? = some B:=⟨_,yaa_ hly_1⟩;have hmy_1:H∈X:=yab_ hy_1;have hGw:(X.map Grw.st)[Wy.role E]? = some (Grw.st H):=by rw[yaM_,hy_1];rfl
 have hyl:=hrows H hmy_1;refine Zz 11 ?_;refine d_ (bH_ A en_ gJ_ rfl rfl zaa_ zaa_) rfl (d_ (eq_ A zp isAgg256 gJ_ rfl (nG_ _) zae_ (A_ nG_ a8)) rfl (C_ qf_ rfl λb_3=>p_ 0 gJ_ rfl rfl rfl rfl rfl rfl (Zz 7 ?_)));refine d_ (ai_ (aC_ rfl rfl rfl (bx_ zaa_ zaa_)) (show _=i4_ ((Wy.many E+1:Nat):Int) from yae_ _ zaa_)) rfl (Zi 1 (λhr_2=>?_) λhr_2=>?_)
 .refine Zz 18 ?_
  refine J_ (ι:={y:Nat×List Wy×List (Bool×Bool)×Value×Hp×Value×Hp // BI (X.map Grw.st) d y.2.1 a y.1/\SeenI y.2.1 y.2.2.1 X.length/\y.2.1[a]? = some E/\y.1<=List.length (Grw.st H)/\zR 256 4 wyC y.2.2.2.1 y.2.1 y.2.2.2.2.1/\zR 259 2 b2C y.2.2.2.2.2.1 y.2.2.1 y.2.2.2.2.2.2}) (λy=>[(1,i4_ d),(2,i4_ most),(3,zp_ a2 0),(6,.slice none 0 0),(7,y.1.2.2.2.1),(8,y.1.2.2.2.2.2.1),(9,i4_ a),(10,zp_ b_3 0),(46,.slice (Grw.ad H) (Grw.st H).length (Grw.cap H)),(47,i4_ (List.length (Grw.st H):Int)),(48,i4_ y.1.1)]) (λy=>((b_3,.cells #[i4_ (Wy.role E:Int),.bool (Wy.strict E),i4_ (Wy.before E:Int),i4_ (Wy.many E:Int)] 256 (0,0))::((a2,.cells #[.slice rad R.length rcap,.slice a3 X.length a7] 184 (0,0))::(y.1.2.2.2.2.1++y.1.2.2.2.2.2.2)))) (λy=>[X_ rad (R.flatMap aa_),X_ a3 (X.flatMap Grw.cells),iy_ X]) (λy=>List.length (Grw.st H) - y.1.1) ⟨((0:Nat),W,Bl,K,O,I,a5),hI,hSn,a8,zaa_,A,C⟩ zl zp zh ?_;rintro ⟨⟨k,a4,N,K,O,I,a5⟩,J,M,G,hk,A,C⟩;dsimp only at J M G hk A C ⊢;refine Zi 2 (λhr_3=>?_) λhr_3=>?_
  .refine Zz 8 ?_
   refine d_ (ai_ (aC_ rfl rfl rfl (bx_ zaa_ zaa_)) (show _=i4_ ((a+1:Nat):Int) from yae_ _ zaa_)) rfl (Zz 3 ?_);exact w_ ⟨(a+1,a4,N,K,O,I,a5),J.next G hGw zaa_,M,(by have:=(yaf_.1 G).1;dsimp only;omega),A,C⟩ (by have q_1:=J.len;have q_2:=(yaf_.1 G).1;rw[yaC_]at q_1;dsimp only;omega) zl (l_ (c_ e_) (x_ (c_ s_) E_)) zh
  have a1:k<List.length (Grw.st H):=by omega
  obtain⟨B,S⟩:∃ B,(Grw.st H)[k]? = some B:=⟨_,yaa_ a1⟩;have hme_1:B∈(Grw.st H):=yab_ S;have b0:=hto _ _ hGw B hme_1;have hto_2:Prod.fst B<X.length:=by have q:=b0;rw[yaC_]at q;exact q
  have hWl_1:=J.len;rw[yaC_]at hWl_1;have hbl:=M.len;have hal:=(yaf_.1 G).1;have hbv_1:=M.at' B.1 hto_2;obtain⟨bv,hbv,hbe⟩:∃ bv,N[Prod.fst B]? = some bv/\bv=(pn_ a4 B.1 false,pn_ a4 B.1 true):=⟨_,hbv_1,rfl⟩;refine Zz 10 ?_;refine d_ (P_ runUnderlying248 sizeOf252 rfl rfl (λv _ h=>av_ (n:=2) py_ zae_ (by exact (h.2.2.1 H hmy_1)) S) zaa_ zag_) rfl ?_;refine d_ (ak_ (ad:=(Grw.ad H)) (us:=uf_ B) isAgg252 sizeOf252 rfl (λv _ h=>by exact (h.2.2.1 H hmy_1)) (py_ _) (A_ py_ S)) rfl (C_ zeroValue252 rfl λb_4=>p_ 0 sizeOf252 rfl rfl rfl rfl rfl rfl (Zz 5 ?_));refine F_ (bU_ 1 fm_ rfl rfl rfl) rfl λr_1 hr_4=>Zz 1 ?_
  refine aE_ 3 (((Wy.strict E))||(B.2)) (λr=>[(1,i4_ d),(2,i4_ most),(3,zp_ a2 0),(6,.slice none 0 0),(7,K),(8,I),(9,i4_ a),(10,zp_ b_3 0),(46,.slice (Grw.ad H) (Grw.st H).length (Grw.cap H)),(47,i4_ (List.length (Grw.st H):Int)),(48,i4_ k),(12,zp_ b_4 0),(57,.bool r)]) ?_ λr_2 a9=>?_
  .cases r_1
   .have a0:=hr_4
    refine Zz 3 ?_;refine F_ (bU_ 0 fm_ rfl rfl rfl) rfl λr_3 P=>Zz 3 ?_
    exact met (zm (jof a0 P))
   have a0:=hr_4;refine Zz 5 ?_;exact met ⟨rfl,rfl,rfl,rfl,rfl,rfl,rfl,rfl,rfl,rfl,rfl,rfl,(z_ rfl (jot a0)),trivial⟩
  refine Zz 9 ?_;refine F_ (aV_ rfl rfl) rfl λr_3 P=>Zz 1 ?_
  refine aE_ 2 ((((Prod.fst B:Nat):Int)==(d:Int))&&((((Wy.strict E))||(B.2)))) (λr=>[(1,i4_ d),(2,i4_ most),(3,zp_ a2 0),(6,.slice none 0 0),(7,K),(8,I),(9,i4_ a),(10,zp_ b_3 0),(46,.slice (Grw.ad H) (Grw.st H).length (Grw.cap H)),(47,i4_ (List.length (Grw.st H):Int)),(48,i4_ k),(12,zp_ b_4 0),(13,.bool r_2),(64,.bool r)]) ?_ λr_4 hr_7=>?_
  .cases r_3
   .have a0:=P
    replace P:=znb P;refine Zz 4 ?_;exact met ⟨rfl,rfl,rfl,rfl,rfl,rfl,rfl,rfl,rfl,rfl,rfl,rfl,rfl,(z_ rfl (jaf a0)),trivial⟩
   have a0:=P;replace P:=zeb P;refine Zz 5 ?_;exact met ⟨rfl,rfl,rfl,rfl,rfl,rfl,rfl,rfl,rfl,rfl,rfl,rfl,rfl,(z_ rfl (jat a0 a9)),trivial⟩
  refine Zz 2 ?_;cases r_4
  .have hcll:=hr_7
   refine Zz 14 ?_;cases r_2
   .have V:=a9
    refine Zz 10 ?_;refine d_ (bH_ C jY_ zF_ rfl rfl zaa_ zaa_) rfl (d_ (iT_ (i:=0) jX_ bn_ rfl rfl zae_) rfl (F_ (cS_ C (c_ (c_ (c_ aJ_))) fm_ rfl (A_ lA_ hbv 0 _ rfl)) rfl λr_5 U=>Zz 2 ?_));cases r_5
    .have Z:=U
     refine Zz 9 ?_;refine d_ (bH_ C jY_ zF_ rfl rfl zaa_ zaa_) rfl (d_ (iT_ (i:=0) jX_ bn_ rfl rfl zae_) rfl (eS_ (k:=((Prod.fst B:Nat):Int).toNat*2+0) C (c_ (c_ (c_ aJ_))) bn_ rfl rfl zaa_ rfl rfl λQ hr_2=>?_));have hs_2:=(iq_ b2C 2 lA_ N (Prod.fst B:Nat) 0 bv (true,Prod.snd bv) (.bool true) hbv zae_ rfl).trans (yae_ _ (rfl));have Y:at_ 259 2 I (List.length (List.set N (Prod.fst B:Nat) (true,Prod.snd bv))) (List.flatMap b2C (List.set N (Prod.fst B:Nat) (true,Prod.snd bv))) Q:=by rw[<-hs_2,show List.length (List.set N (Prod.fst B:Nat) (true,Prod.snd bv))=N.length from (ybp_ ..)];exact hr_2
     refine Zz 2 ?_;refine u_ (S_ (g_ e_) (S_ (g_ e_) (aW_ (g_ e_)))) (Zz 8 ?_);refine d_ (ai_ (aC_ rfl rfl rfl (bx_ zaa_ zaa_)) (show _=i4_ ((Wy.many E+1:Nat):Int) from yae_ _ zaa_)) rfl (d_ (y_ rt_ rfl rfl) rfl (B_ en_ gJ_ qf_ rfl rfl rfl rfl rfl rfl λb_5=>?_));refine aH_ (news:=List.flatMap wyC [(Wy.mk (Prod.fst B:Nat) false a (Wy.many E+1:Nat))]) AT_ A rfl rfl zp rfl (bz_ 0 rfl) (λu hu=>aF_ vW_ hu) zan_ zaq_ rfl λT Hr_3 hr_3=>?_;have hq_3:=zsa hr_3;refine Zz 3 ?_;refine u_ (S_ (g_ e_) (S_ (g_ e_) (S_ (g_ e_) (aW_ (g_ e_))))) (Zz 5 ?_);exact w_ ⟨(k+1,(a4++[(Wy.mk (Prod.fst B:Nat) false a (Wy.many E+1:Nat))]),(List.set N (Prod.fst B:Nat) (true,Prod.snd bv)),T,Hr_3,I,Q),zaK_,(M.push (b:=false) (bf:=a) (m:=Wy.many E+1) hbv),zbk_,a1,hq_3,Y⟩ zab_ zl (l_ (c_ (c_ e_)) (l_ (c_ (c_ e_)) (x_ (c_ (c_ s_)) (c_ E_)))) zh
    exact mu_
   have V:=a9;refine Zz 12 ?_;refine d_ (bH_ C jY_ zF_ rfl rfl zaa_ zaa_) rfl (d_ (iT_ (i:=1) jX_ bn_ rfl rfl zae_) rfl (F_ (cS_ C (c_ (c_ (c_ aJ_))) fm_ rfl (A_ lA_ hbv 1 _ rfl)) rfl λr_5 U=>Zz 2 ?_));cases r_5
   .have Z:=U
    refine Zz 9 ?_;refine d_ (bH_ C jY_ zF_ rfl rfl zaa_ zaa_) rfl (d_ (iT_ (i:=1) jX_ bn_ rfl rfl zae_) rfl (eS_ (k:=((Prod.fst B:Nat):Int).toNat*2+1) C (c_ (c_ (c_ aJ_))) bn_ rfl rfl zaa_ rfl rfl λQ hr_4=>?_));have hs_2:=(iq_ b2C 2 lA_ N (Prod.fst B:Nat) 1 bv (Prod.fst bv,true) (.bool true) hbv zae_ rfl).trans (yae_ _ (rfl));have Y:at_ 259 2 I (List.length (List.set N (Prod.fst B:Nat) (Prod.fst bv,true))) (List.flatMap b2C (List.set N (Prod.fst B:Nat) (Prod.fst bv,true))) Q:=by rw[<-hs_2,show List.length (List.set N (Prod.fst B:Nat) (Prod.fst bv,true))=N.length from (ybp_ ..)];exact hr_4
    refine Zz 2 ?_;refine u_ (S_ (g_ e_) (S_ (g_ e_) (aW_ (g_ e_)))) (Zz 8 ?_);refine d_ (ai_ (aC_ rfl rfl rfl (bx_ zaa_ zaa_)) (show _=i4_ ((Wy.many E+1:Nat):Int) from yae_ _ zaa_)) rfl (d_ (y_ rt_ rfl rfl) rfl (B_ en_ gJ_ qf_ rfl rfl rfl rfl rfl rfl λb_5=>?_));refine aH_ (news:=List.flatMap wyC [(Wy.mk (Prod.fst B:Nat) true a (Wy.many E+1:Nat))]) AT_ A rfl rfl zp rfl (bz_ 0 rfl) (λu hu=>aF_ vW_ hu) zan_ zaq_ rfl λT Hr_3 a9=>?_;have hq_3:=zsa a9;refine Zz 3 ?_;refine u_ (S_ (g_ e_) (S_ (g_ e_) (S_ (g_ e_) (aW_ (g_ e_))))) (Zz 5 ?_);exact w_ ⟨(k+1,(a4++[(Wy.mk (Prod.fst B:Nat) true a (Wy.many E+1:Nat))]),(List.set N (Prod.fst B:Nat) (Prod.fst bv,true)),T,Hr_3,I,Q),zaK_,(M.push (b:=true) (bf:=a) (m:=Wy.many E+1) hbv),zbk_,a1,hq_3,Y⟩ zab_ zl (l_ (c_ (c_ e_)) (l_ (c_ (c_ e_)) (x_ (c_ (c_ s_)) (c_ E_)))) zh
   exact mu_
  have hclT:=hr_7;refine Zz 3 ?_;refine u_ (H':=((b_4,.cells #[i4_ ((Prod.fst B:Nat):Int),.bool B.2] 252 (0,0))::((b_3,.cells #[i4_ (Wy.role E:Int),.bool (Wy.strict E),i4_ (Wy.before E:Int),i4_ (Wy.many E:Int)] 256 (0,0))::((a2,.cells #[.slice rad R.length rcap,.slice a3 X.length a7] 184 (0,0))::(O++(a5++([]:Hp))))))) (List.Perm.cons _ (List.Perm.cons _ (List.Perm.cons _ (ybl_ O (ycG_ (yas_ _).symm))))) ?_;refine J_ (ι:={y:Nat×List Int×Value×Hp×Value×Hp // y.1<=a/\(∀ x∈y.2.1,0<=x/\x<(List.length X:Int))/\y.2.1.length+y.1<=a/\zR 256 4 wyC y.2.2.1 a4 y.2.2.2.1/\zR 3 1 dl_ y.2.2.2.2.1 y.2.1 y.2.2.2.2.2}) (λy=>[(1,i4_ d),(2,i4_ most),(3,zp_ a2 0),(6,y.1.2.2.2.2.1),(7,y.1.2.2.1),(8,I),(9,i4_ y.1.1),(10,zp_ b_3 0),(46,.slice (Grw.ad H) (Grw.st H).length (Grw.cap H)),(47,i4_ (List.length (Grw.st H):Int)),(48,i4_ k),(12,zp_ b_4 0)]) (λy=>((b_4,.cells #[i4_ ((Prod.fst B:Nat):Int),.bool B.2] 252 (0,0))::((b_3,.cells #[i4_ (Wy.role E:Int),.bool (Wy.strict E),i4_ (Wy.before E:Int),i4_ (Wy.many E:Int)] 256 (0,0))::((a2,.cells #[.slice rad R.length rcap,.slice a3 X.length a7] 184 (0,0))::(y.1.2.2.2.1++y.1.2.2.2.2.2))))) (λy=>[X_ rad (R.flatMap aa_),X_ a3 (X.flatMap Grw.cells),iy_ X]) (λy=>y.1.1) ⟨(a,([]:List Int),K,O,(.slice none 0 0),([]:Hp)),(yad_ _),zai_,zai_,A,(at_.nil _ _)⟩ zl zp zh ?_;rintro ⟨⟨a_1,L,K,O,sv_RL,H_RL⟩,ha_1,hLx,hLl,A,hr_RL⟩;dsimp only at ha_1 hLx hLl A hr_RL ⊢;refine Zi 4 (λU=>?_) λU=>?_
  .refine Zz 9 ?_
   refine B_ as_ R_ bJ_ rfl rfl rfl rfl rfl rfl λb_5=>?_;refine aH_ (news:=List.flatMap dl_ [(d:Int)]) nS_ hr_RL rfl rfl zp rfl (bz_ 0 rfl) (λu hu=>aF_ ll_ hu) zan_ zaq_ rfl λT Q hr_9=>?_;have Y:=zsa hr_9;refine Zz 3 ?_;refine u_ (S_ (g_ e_) (S_ (g_ e_) (S_ (g_ e_) (aW_ (g_ e_))))) (Zz 3 ?_);refine f_ (xH_ (L++[(d:Int)]) T Q Y (by have:=(yaf_.1 G).1;simp only[yaj_,ybX_];omega)) rfl (c_ (c_ (c_ (c_ s_)))) zt rfl λ⟨Hv_1,hv_1⟩=>?_;dsimp only;have hqL_1:at_ 3 1 T (List.length (List.reverse (L++[(d:Int)]))) (List.flatMap dl_ (List.reverse (L++[(d:Int)]))) Hv_1:=hv_1;refine Zz 4 ?_;refine u_ (S_ (g_ e_) (S_ (g_ e_) (S_ (g_ e_) (aW_ (g_ e_))))) (Zz 7 ?_);refine bQ_ hqL_1 (c_ (c_ (c_ (c_ s_)))) λlad lcap hlad hclad hmlad hzlad=>?_;have hln:lad≠none:=λe=>by have q:=hzlad e;have q_1:=hclad;rw[q]at q_1;simp only[List.length_reverse,yaj_,ybX_]at q_1;omega
   exact ac_ results132 ⟨((List.reverse (L++[(d:Int)])),lad,lcap),.inr ⟨hln,⟨_,J.found G hGw S (by have F:=hclT;simp only[yaL_,ydc_]at F;omega) (by have F:=hclT;simp only[yaL_]at F;exact F.2)⟩,(λx hx=>by rw[ycS_]at hx;rw[yaC_];rcases yai_.1 hx with hx|hx;exact hLx x hx;rw[yam_]at hx;subst hx;omega),(by have:=J.len;rw[yaC_]at this;simp only[List.length_reverse,yaj_,ybX_,yaC_];omega)⟩,hclad,hmlad,hzlad⟩ (ec_ rfl hlad) i_ zf
  have hlw_2:a_1<a4.length:=by have:=(yaf_.1 G).1;omega
  obtain⟨b3,a6⟩:∃ B,a4[a_1]? = some B:=⟨_,yaa_ hlw_2⟩;refine Zz 11 ?_;refine d_ (bH_ A en_ gJ_ rfl rfl zaa_ zaa_) rfl (Zz 1 ?_);refine d_ (cS_ A zp bb_ rfl (A_ nG_ a6 0 _ rfl)) rfl (B_ as_ R_ bJ_ rfl rfl rfl rfl rfl rfl λb_5=>?_);refine aH_ (news:=List.flatMap dl_ [(Wy.role b3:Int)]) nS_ hr_RL rfl rfl zp rfl (bz_ 0 rfl) (λu hu=>aF_ ll_ hu) zan_ zaq_ rfl λT Q P=>?_;have Y:=zsa P;refine Zz 3 ?_;refine u_ (S_ (g_ e_) (S_ (g_ e_) (S_ (g_ e_) (aW_ (g_ e_))))) (Zz 3 ?_);refine d_ (bH_ A en_ gJ_ rfl rfl zaa_ zaa_) rfl (Zz 1 ?_);refine d_ (cS_ A zp bb_ rfl (A_ nG_ a6 2 _ rfl)) rfl (Zz 3 ?_);exact w_ ⟨((Wy.before b3),(L++[(Wy.role b3:Int)]),K,O,T,Q),(by have:=J.bef a_1 b3 a6 zaa_;omega),(λx hx=>by rcases yai_.1 hx with hx|hx;exact hLx x hx;rw[yam_]at hx;subst hx;have:=J.role a_1 b3 a6;rw[yaC_]at this;omega),(by have:=J.bef a_1 b3 a6 zaa_;simp only[yaj_,ybX_];omega),A,Y⟩ (by have:=J.bef a_1 b3 a6 zaa_;dsimp only;omega) zl (l_ (c_ e_) (l_ (c_ e_) (l_ (c_ e_) (x_ (c_ aJ_) E_)))) zh
 refine Zz 12 ?_;exact ac_ results132 ⟨([],none,0),.inl ⟨rfl,rfl,rfl,λn f c hc hf=>hI.none (λw hw=>by rw[a8]at hw;simp only[yah_]at hw;subst hw;omega) hto hc hf⟩,by simp[maxLen]⟩ rfl i_ (λv _ h=>⟨.inl rfl,trivial⟩)
theorem wU_ (x:Ax):∀ i,(x.chs i).length<=i
  | 0=>by grind[Ax.chs]
  | i+1=>by
    have:=wU_ x i
    grind[Ax.chs]
theorem uJ_ {x:Ax} (h:x.check=0):x.steps.length<=4:=by
 unfold Ax.steps
 split
 .grind
 split
 .rename_i d
  have:=(Ax.good_of h).chain d
  grind[wU_]
 simp
theorem oF_:∀ (l:List Ax),(∀ x∈l,x.check=0)->(dB_ l).length<=4*l.length
  | [],_=>by grind[dB_]
  | x::l,h=>by
    have e:=oF_ l λy d=>h y (yaK_ _ d)
    grind[uJ_,dB_]
theorem MmO.ksl {m:Nat} {ks:List (Str×Nat)} {S:List RSt} {H:Hp} (h:MmO m ks S H) (v:Frm ks S):ks.length<=S.length:=by
  obtain⟨es,c,E,_,hE⟩:=h
  have e:ks.map (·.1) ⊆ S.map (·.1):=λk hk=>by
    obtain⟨s,d,x⟩:=v k hk
    grind
  have:=hE.nd.length_le_of_subset e
  grind
def jB_ (G:List (List (Nat×Bool))) (i most:Nat) (L:List Int) (ad:Ao) (cap:Nat):Prop :=
  (L=[]/\ad=none/\cap=0/\most=G.length+1/\∀ (n:Nat) (f:Nat->Nat) (c:Nat->Bool),Clw (gE G) n f c->f 0<i->most<=n)\/
  (ad≠none/\most<=2*G.length+1/\(∃ n,Clo (gE G) n)/\(∀ x∈L,0<=x/\x<(G.length:Int))/\L.length<=2*G.length+1)
theorem jB_.init {G:List (List (Nat×Bool))}:jB_ G 0 (G.length+1) [] none 0:=.inl ⟨rfl,rfl,rfl,rfl,λ_ _ _ _ h=>by omega⟩
theorem jB_.skip {G:List (List (Nat×Bool))} {i most:Nat} {L M:List Int} {ad:Ao} {cap cp:Nat} (h:jB_ G i most L ad cap) (v:CirR G i most M none cp):jB_ G (i+1) most L ad cap:=by
 rcases h with⟨m,d,e,k,x⟩|h
 .rcases v with⟨_,_,_,v⟩|⟨v,_⟩
  .refine .inl ⟨m,d,e,k,λn f c y A=>?_⟩
   grind
  grind
 exact .inr h
theorem jB_.take {G:List (List (Nat×Bool))} {i most:Nat} {L M:List Int} {ad d:Ao} {cap cp:Nat} (h:jB_ G i most L ad cap) (k:CirR G i most M d cp) (y:d≠none):jB_ G (i+1) M.length M d cp:=by
 rcases k with⟨_,k,_⟩|⟨v,m,x,e⟩
 .grind
 exact .inr ⟨v,e,m,x,e⟩
theorem jB_.none {G:List (List (Nat×Bool))} {most:Nat} {L:List Int} {cap:Nat} (h:jB_ G G.length most L none cap):∀ n,¬ Clo (gE G) n:=by
  rcases h with⟨_,_,_,d,e⟩|⟨h,_⟩
  all_goals grind[Bf_]
theorem jB_.some {G:List (List (Nat×Bool))} {i most:Nat} {L:List Int} {ad:Ao} {cap:Nat} (h:jB_ G i most L ad cap) (m:ad≠Option.none):(∃ n,Clo (gE G) n)/\(∀ x∈L,0<=x/\x<(G.length:Int))/\L.length<=2*G.length+1:=by
  rcases h with⟨_,h,_⟩|⟨_,_,e,d,k⟩
  all_goals grind
theorem jB_.most {G:List (List (Nat×Bool))} {i most:Nat} {L:List Int} {ad:Ao} {cap:Nat} (h:jB_ G i most L ad cap):most<=2*G.length+1:=by
  rcases h with⟨_,_,_,h,_⟩|⟨_,h,_⟩<;>omega
def RlR (l:List Ax) (e:Int):Prop:=(e=0/\¬ yV_ (dB_ l))\/(e=60/\yV_ (dB_ l))
theorem RlR.uniq {l:List Ax} {a b:Int} (h:RlR l a) (k:RlR l b):a=b:=by
  rcases h with⟨rfl,h⟩|⟨rfl,h⟩<;>rcases k with⟨rfl,k⟩|⟨rfl,k⟩
  all_goals grind
theorem RlR.sub {l m:List Ax} (h:RlR m 0) (d:∀ x∈l,x∈m):RlR l 0:=by
 rcases h with⟨_,h⟩|⟨h,_⟩
 .exact .inl ⟨rfl,λq=>h (q.sub (uK_ d))⟩
 omega
theorem xg_ {P:Program} {N:Nf} {fr:Fr} {H:Hp} {Γ:List Fct} {ty t k e:TypeId} {x y:Operand} {ad:Ao} {m c:Nat} (A:P.underlying t=some (.slice e)) (B:Fr.ev fr x=some (.slice ad m c)) (h:Fr.ev fr y=some (.slice none 0 0)):Yld P N fr H Γ (.binOp .neq t x y k) ty (.bool (!decide (ad=none))) :=
  λa v d _ _ _ _ _=>by
    have C:decide (ad=none)=ad.isNone:=by cases ad<;>simp
    rw[C];simp[execOp,d.ev B,d.ev h,eqGuard,binOp,wJ_ v.w t e ad m c A]
theorem xF_ (l:List Ax) (ad:Ao) (cap:Nat) (a2:∀ x∈l,x.ok) (hC:∀ x∈l,x.check=0) (hll:l.length<=20000):Tri prog 60 #[.slice ad l.length cap] [] [bZ_ ad l,bE_] (λy:{y:Value×Int // RlR l y.2}=>.tuple #[y.1.1,i4_ y.1.2]) (λ_=>[]) (λ_=>[]):=by
 refine j_ func60 rfl rfl ntmps60 rfl λv_1=>?_;refine Zz 10 ?_;refine f_ (qz_ l ad cap a2 hC zaa_) rfl i_ zf rfl λ_=>Zz 6 ?_
 refine d_ (ai_ (cq_ rfl rfl) (show _=Value.bool false from yae_ Value.bool zae_)) rfl (Zz 8 ?_);refine f_ (BW_ l ad cap a2 hC zaa_) rfl i_ zf rfl λ⟨⟨mb,ks,Hm⟩,hM,O⟩=>?_;dsimp only;simp only[yas_];dsimp only at hM O;have hSl:=oF_ l hC;have hkl:=MmO.ksl hM O;refine f_ (vg_ mb ks (dB_ l) Hm hM O zaa_ zaa_) rfl Z_ zt rfl λ⟨⟨X,rad,rcap,E,I⟩,hG,b3,hXk,⟨hrs_1,hrs_2,hrs_3⟩,⟨hgs_1,hgs_2,hgs_3⟩⟩=>?_;dsimp only;dsimp only at hG b3 hXk;have hrl:List.length (cg_ (List.map (λp:Str×Nat=>p.1) ks))=ks.length:=by rw[yaX_,yaC_]
 have a4:List.length (X.map Grw.st)=X.length:=yaC_ ..;refine C_ zeroValue184 rfl λN=>p_ 0 sizeOf184 rfl rfl rfl rfl rfl rfl (Zz 7 ?_)
 refine d_ (ai_ (aC_ rfl rfl rfl (bx_ zaa_ zaa_)) (show _=i4_ ((List.length X+1:Nat):Int) from yae_ _ zaa_)) rfl (Zz 18 ?_);refine J_ (ι:={y:Nat×Nat×List Int×Ao×Nat // y.1<=List.length (cg_ (List.map (λp:Str×Nat=>p.1) ks))/\jB_ (X.map Grw.st) y.1 y.2.1 y.2.2.1 y.2.2.2.1 y.2.2.2.2}) (λy=>[(2,.slice none 0 0),(3,i4_ 0),(5,zp_ N 0),(6,i4_ y.1.2.1),(7,.slice y.1.2.2.2.1 y.1.2.2.1.length y.1.2.2.2.2),(26,i4_ (List.length (cg_ (List.map (λp:Str×Nat=>p.1) ks)):Int)),(27,i4_ y.1.1)]) (λy=>((N,.cells #[.slice rad (List.length (cg_ (List.map (λp:Str×Nat=>p.1) ks))) rcap,.slice E X.length I] 184 (0,0))::[])) (λy=>[X_ y.1.2.2.2.1 (y.1.2.2.1.flatMap dl_),X_ rad (List.flatMap aa_ (cg_ (List.map (λp:Str×Nat=>p.1) ks))),X_ E (X.flatMap Grw.cells),iy_ X]) (λy=>List.length (cg_ (List.map (λp:Str×Nat=>p.1) ks)) - y.1.1) ⟨((0:Nat),(List.length X+1),([]:List Int),none,0),zai_,(by have q:=jB_.init (G:=(X.map Grw.st));rw[a4]at q;exact q)⟩ zl e_ (λv _ h=>by exact⟨(.inl rfl),h.1,h.2.1,h.2.2.1,trivial⟩) ?_;rintro ⟨⟨i,mo,L,lad,lcap⟩,a8,V⟩;dsimp only at a8 V ⊢;refine Zi 2 (λF=>?_) λF=>?_
 .refine Zz 10 ?_
  refine F_ (sv_ (ad:=lad) underlying63 rfl rfl) rfl λa7 d=>Zz 2 ?_
  cases a7
  .replace d:=zdf d
   have a9:=V.some d;refine Zz 12 ?_;refine J_ (ι:={y:Nat×List Str×Value×Hp // y.1<=List.length L/\y.2.1.length<=y.1/\zR 9 1 aa_ y.2.2.1 y.2.1 y.2.2.2}) (λy=>[(2,y.1.2.2.1),(3,i4_ 0),(5,zp_ N 0),(6,i4_ mo),(7,.slice lad L.length lcap),(26,i4_ (List.length (cg_ (List.map (λp:Str×Nat=>p.1) ks)):Int)),(27,i4_ i),(42,.slice lad L.length lcap),(43,i4_ (List.length L:Int)),(44,i4_ y.1.1)]) (λy=>((N,.cells #[.slice rad (List.length (cg_ (List.map (λp:Str×Nat=>p.1) ks))) rcap,.slice E X.length I] 184 (0,0))::y.1.2.2.2)) (λy=>[X_ lad (L.flatMap dl_),X_ rad (List.flatMap aa_ (cg_ (List.map (λp:Str×Nat=>p.1) ks))),X_ E (X.flatMap Grw.cells),iy_ X]) (λy=>L.length - y.1.1) ⟨((0:Nat),([]:List Str),(.slice none 0 0),[]),by simp,zai_,(at_.nil _ _)⟩ zl e_ zh ?_;rintro ⟨⟨k,C,sv_RC,H_RC⟩,Z,hCl,m⟩;dsimp only at Z hCl m ⊢;refine Zi 2 (λA=>?_) λA=>?_
   .refine Zz 14 ?_
    refine bQ_ m E_ λcad ccap a0 hccad hmcad hzcad=>?_;exact eI_ results60 ⟨(_,60),.inr ⟨rfl,hG.circ.2 a9.1⟩⟩ (ec_ rfl a0) rfl rfl i_ zt
   have J:k<L.length:=by omega
   obtain⟨K,a5⟩:∃ B,L[k]? = some B:=⟨_,yaa_ J⟩;have U:K∈L:=yab_ a5;have hzb:=a9.2.1 K U;rw[a4]at hzb;have W:(Int.toNat K)<List.length (cg_ (List.map (λp:Str×Nat=>p.1) ks)):=by omega
   obtain⟨rz,hrz⟩:∃ B,(cg_ (List.map (λp:Str×Nat=>p.1) ks))[(Int.toNat K)]? = some B:=⟨_,yaa_ W⟩;refine Zz 22 ?_;refine B_ n_ D_ V_ rfl rfl rfl rfl rfl rfl λb_2=>?_;refine aH_ (news:=List.flatMap aa_ [rz]) dj_ m rfl rfl zp rfl (bz_ 0 rfl) (λu hu=>aF_ cz_ hu) zan_ zaq_ rfl λY a3 F=>?_;refine u_ yaE_ ?_;have a6:=zsa F;refine Zz 8 ?_;exact w_ ⟨(k+1,(C++[rz]),Y,a3),J,zbn_,a6⟩ zab_ zl (l_ (c_ e_) E_) zh
  replace d:=zdt d;refine Zz 8 ?_;exact eI_ results60 ⟨(.slice none 0 0,0),.inl ⟨rfl,λq=>by obtain⟨n,hn⟩:=hG.circ.1 q;exact jB_.none (by have a1:=V;rw[d,show i=List.length (X.map Grw.st) from zaa_]at a1;exact a1) n hn⟩⟩ rfl rfl rfl i_ zt
 have e:i<List.length (cg_ (List.map (λp:Str×Nat=>p.1) ks)):=by omega
 obtain⟨a7,d⟩:∃ B,(cg_ (List.map (λp:Str×Nat=>p.1) ks))[i]? = some B:=⟨_,yaa_ e⟩;refine Zz 19 ?_;refine f_ (Bg_ (cg_ (List.map (λp:Str×Nat=>p.1) ks)) rad rcap X E I i mo zaa_ zaa_ hG.to zaa_ (λz hz=>by have:=b3 z hz;omega) (by have:=V.most;omega)) rfl i_ zf rfl λ⟨⟨M,T,b0⟩,H,Q,S,P⟩=>?_;dsimp only;dsimp only at H Q S P;refine Zz 6 ?_;refine F_ (xg_ (ad:=T) underlying63 rfl rfl) rfl λr_2 A=>Zz 2 ?_
 cases r_2
 .refine Zz 8 ?_
  exact w_ ⟨(i+1,mo,L,lad,lcap),e,(V.skip (by have q:=H;rw[show T=none from by simpa using A]at q;exact q))⟩ zab_ zl e_ (λ_ _ h=>h.2)
 refine Zz 14 ?_;exact w_ ⟨(i+1,M.length,M,T,b0),e,(V.take H (by simpa using A))⟩ zab_ zl e_ zf
def qT (x w:Tre):Bool:=Con.cmp x.con w.con==0
def kg_ (t:Tre):Prop:=t.wf/\t.con.sz<=1000000
theorem DG_ (x w:Tre) (d:kg_ x) (e:kg_ w):Tri prog 201 #[Tre.val x,Tre.val w] [] [Tre.memF x,Tre.memF w] (λ_:Unit=>.bool (qT x w)) (λ_=>[]) (λ_=>[]):=by
  refine j_ func201 rfl rfl ntmps201 rfl λm=>?_;refine Zz 2 ?_;refine L_ rfl rfl λb1=>L_ rfl rfl λb2=>Zz 7 ?_
  refine f_ (ma_ _ x w (yad_ _) d.1 e.1 d.2 e.2) rfl i_ zf rfl λ_=>F_ (aV_ rfl rfl) rfl λk h=>Zz 4 ?_
  exact ac_ results201 () (z_ rfl (by rw[<-h];rfl)) i_ zt
theorem yD_ (e:List Tre) (sv:Value) (Hr:Hp) (hr:zR 171 7 Tre.cells sv e Hr) (W:∀ t∈e,kg_ t) (hl:e.length<=1000000):Tri prog 200 #[sv,.func (.func 201) #[] #[]] Hr [cV_ e] (λy:{y:Value×Hp // zR 171 7 Tre.cells y.1 (cpL qT e) y.2}=>y.1.1) (λy=>y.1.2) (λ_=>[]):=by
 refine j_ func200 rfl rfl ntmps200 rfl λv_1=>?_;refine Zz 9 ?_;refine d_ (cm_ hr aX_ rfl) rfl ?_;refine Zi 0 (λN=>?_) λN=>?_
 .refine Zz 12 ?_
  refine J_ (ι:={y:Nat×Value×Hp // y.1+1<=List.length e/\cpL qT (List.take (y.1+1) e)=List.take (y.1+1) e/\zR 171 7 Tre.cells y.2.1 e y.2.2}) (λy=>[(0,y.1.2.1),(1,.func (.func 201) #[] #[]),(5,i4_ ((y.1.1+1:Nat):Int))]) (λy=>(y.1.2.2)) (λy=>[cV_ e]) (λy=>e.length - y.1.1) ⟨((0:Nat),sv,Hr),zaa_,(by obtain⟨t_1,tl,rfl⟩:=ycb_ (show 0<e.length by omega);rfl),hr⟩ zl Z_ zh ?_;rintro ⟨⟨k,A,K⟩,hk,Q,d⟩;dsimp only at hk Q d ⊢;refine Zz 5 ?_;refine d_ (cm_ d aX_ rfl) rfl ?_;refine Zi 0 (λb5=>?_) λb5=>?_
  .refine Zz 12 ?_
   have x:cpL qT e=e:=(by first|exact rc_ zaa_|(have q:=Q;rw[yac_ zaa_]at q;exact q));exact ac_ results200 ⟨(A,K),by rw[x];exact d⟩ rfl Z_ zt
  refine Zz 8 ?_;have S:(k+1:Nat)<e.length:=by omega
  obtain⟨T,G⟩:∃ x,e[(k+1:Nat)]? = some x:=⟨_,yaa_ S⟩;have O:T∈e:=yab_ G;have Z:k<e.length:=by omega
  obtain⟨U,H⟩:∃ x,e[k]? = some x:=⟨_,yaa_ Z⟩;have L:U∈e:=yab_ H;refine Zz 1 ?_;refine G_ 1 [0,1,2,3,4,5,6,7,8,9] zk zs (Zz 3 ?_);refine N_ rfl (bH_ d aX_ aL_ rfl rfl zaa_ zaa_) rfl (N_ rfl (eq_ d Z_ hO_ aL_ rfl (Tre.cells_len _) zae_ (A_ Tre.cells_len G)) rfl (Zz 2 ?_));refine N_ rfl (ai_ (aC_ rfl rfl rfl (bx_ zaa_ zaa_)) (show _=i4_ k from yae_ _ zaa_)) rfl (N_ rfl (bH_ d aX_ aL_ rfl rfl zaa_ zaa_) rfl (N_ rfl (eq_ d Z_ hO_ aL_ rfl (Tre.cells_len _) zae_ (A_ Tre.cells_len H)) rfl (bX_ (m_ 10 rfl zk (cb_ (DG_ T U (W T O) (W U L)) rfl rfl i_ (λv _ h=>by exact⟨(h.1 T O),(h.1 U L),trivial⟩) rfl λb8 X=>Zz 5 ?_)))));cases b8
  .refine Zz 5 ?_
   refine d_ (ai_ (aC_ rfl rfl rfl (bx_ zaa_ zaa_)) (show _=i4_ ((k+1+1:Nat):Int) from yae_ _ zaa_)) rfl (Zz 3 ?_);exact w_ ⟨(k+1,A,K),(by have:=S;omega),(AY_ Q H G X),d⟩ zab_ zl Z_ zh
  refine Zz 5 ?_;refine d_ (su_ (k:=(k+1:Nat)) d aX_ aL_ rfl rfl zaa_) rfl (Zz 10 ?_);refine J_ (ι:={y:List Tre×Nat×Nat×Value×Hp // CmI qT e y.1 y.2.1 (k+1+y.2.2.1+1)/\zR 171 7 Tre.cells y.2.2.2.1 y.1 y.2.2.2.2}) (λy=>[(0,y.1.2.2.2.1),(1,.func (.func 201) #[] #[]),(5,i4_ y.1.2.1),(6,svT y.1.2.2.2.1 e.length (k+1) 7),(7,i4_ ((y.1.2.2.1+1:Nat):Int))]) (λy=>(y.1.2.2.2.2)) (λy=>[cV_ e]) (λy=>e.length - y.1.2.2.1) ⟨(e,(k+1),(0:Nat),A,K),(CmI.none Q H G X),d⟩ zl Z_ zh ?_;rintro ⟨⟨M,E,m,A,K⟩,J,d⟩;dsimp only at J d ⊢;have hMl:=J.len;have hpl:=J.pl;have hkp:=J.kp;refine Zz 5 ?_;refine d_ (xh_ aX_ rfl) rfl ?_;refine Zi 0 (λb0=>?_) λb0=>?_
  .refine Zz 9 ?_
   refine d_ (su_ (k:=E) d aX_ aL_ rfl rfl zaa_) rfl (vd_ (k:=E) d Z_ aX_ cF_ rfl rfl zae_ rfl zaa_ λa5 zs_1 hz_2 a7=>u_ ea_ (Zz 6 ?_));obtain⟨a6,I,B⟩:=cutRow (P:=prog) (k:=E) a7 zaa_ zaa_;refine d_ (B aX_ aL_ rfl rfl) rfl (Zz 4 ?_);have a4:CmI qT e M E e.length:=by have q:=J;rw[show k+1+m+1=e.length by omega]at q;exact q
   have b6:=a4.done;have a3:(M.take E).length=E:=by rw[yaI_];omega
   exact ac_ results200 ⟨(a6,a5),by show at_ 171 7 _ _ _ _;rw[<-b6,a3,<-lm_ Tre.cells 7 Tre.cells_len];have q:=I;rw[ycz_ (by rw[yaI_,ch_ Tre.cells 7 Tre.cells_len];omega),ycM_,Nat.min_self]at q;exact q⟩ rfl Z_ zt
  refine Zz 8 ?_;have a0:(k+1+m:Nat)<M.length:=by omega
  obtain⟨V,F⟩:∃ x,M[(k+1+m:Nat)]? = some x:=⟨_,yaa_ a0⟩;have a1:(k+1+(m+1):Nat)<M.length:=by omega
  obtain⟨C,B⟩:∃ x,M[(k+1+(m+1):Nat)]? = some x:=⟨_,yaa_ a1⟩;have b4:V∈e:=by have q:=J.rest (k+1+m) zaa_;rw[F]at q;exact yab_ q.symm
  have a9:C∈e:=by have q:=J.rest (k+1+(m+1)) zaa_;rw[B]at q;exact yab_ q.symm
  refine Zz 1 ?_;refine G_ 2 [0,1,2,3,4,5,6,7,8,9] zk zs (Zz 3 ?_);refine N_ rfl (rr_ (j:=(m+1:Nat)) aX_ aL_ rfl rfl zaa_) rfl (N_ rfl (eq_ d Z_ hO_ aL_ rfl (Tre.cells_len _) zae_ (A_ Tre.cells_len B)) rfl (Zz 2 ?_));refine N_ rfl (ai_ (aC_ rfl rfl rfl (bx_ zaa_ zaa_)) (show _=i4_ m from yae_ _ zaa_)) rfl (N_ rfl (rr_ (j:=m) aX_ aL_ rfl rfl zaa_) rfl (N_ rfl (eq_ d Z_ hO_ aL_ rfl (Tre.cells_len _) zae_ (A_ Tre.cells_len F)) rfl (bX_ (m_ 10 rfl zk (cb_ (DG_ C V (W C a9) (W V b4)) rfl rfl i_ (λv _ h=>by exact⟨(h.1 C a9),(h.1 V b4),trivial⟩) rfl λb7 I=>Zz 3 ?_)))));refine G_ 0 [11] zk zs (N_ rfl (aK_ rfl) rfl (Zz 3 ?_));cases b7
  .refine Zz 2 ?_
   have a2:E<M.length:=by omega
   obtain⟨o_1,ho_1⟩:∃ x,M[E]? = some x:=⟨_,yaa_ a2⟩;refine Zz 5 ?_;refine d_ (rr_ (j:=(m+1:Nat)) aX_ aL_ rfl rfl zaa_) rfl (d_ (eq_ d Z_ hO_ aL_ rfl (Tre.cells_len _) zae_ (A_ Tre.cells_len B)) rfl (d_ (bH_ d aX_ aL_ rfl rfl zaa_ zaa_) rfl (va_ (k:=E*7) (us:=Tre.cells C) d Z_ aL_ rfl rfl zaa_ (Tre.cells_len _) zae_ (Tre.cells_one _) λY N=>?_)));have a8:=wF_ Tre.cells 7 Tre.cells_len M E C zaa_;have b3:at_ 171 7 A (List.set M E C).length (List.flatMap Tre.cells (List.set M E C)) Y:=by rw[ybp_,<-a8];exact N
   refine u_ ea_ (Zz 4 ?_);refine d_ (ai_ (aC_ rfl rfl rfl (bx_ zaa_ zaa_)) (show _=i4_ ((E+1:Nat):Int) from yae_ _ zaa_)) rfl (Zz 5 ?_);refine d_ (ai_ (aC_ rfl rfl rfl (bx_ zaa_ zaa_)) (show _=i4_ ((m+1+1:Nat):Int) from yae_ _ zaa_)) rfl (Zz 3 ?_);exact w_ ⟨((List.set M E C),E+1,m+1,A,Y),(J.keep F B (by simpa using I)),b3⟩ (by have:=J.pl;have:=J.kp;dsimp only;omega) zl Z_ zh
  refine Zz 5 ?_;refine d_ (ai_ (aC_ rfl rfl rfl (bx_ zaa_ zaa_)) (show _=i4_ ((m+1+1:Nat):Int) from yae_ _ zaa_)) rfl (Zz 3 ?_);exact w_ ⟨(M,E,m+1,A,K),(J.skip F B (by simpa using I)),d⟩ (by have:=J.pl;have:=J.kp;dsimp only;omega) zl Z_ zh
 refine Zz 10 ?_;have x:cpL qT e=e:=(by first|exact rc_ zaa_|(have q:=Q;rw[yac_ zaa_]at q;exact q));exact ac_ results200 ⟨(sv,Hr),by rw[x];exact hr⟩ rfl Z_ zt
end Go.Proofs.YtbffkokbdeppaaaGreatDoor
namespace Go.Proofs.YtbffkokbdeppaaaGreatDoor
open Go Go.Sx Go.Proofs Tryz
attribute [local irreducible] Code.wp wpList wpAnyH
open Go.Vs Go.Shelf Go.RowKit
theorem Con.mem_sl:∀ (n:Nat) (c:Con),c.sz<=n->∀ (v:Vw) (q:Prop),c.mem v->c.mem ⟨v.im,v.w,q⟩
  | 0,c,h=>by grind[Con.sz_pos]
  | n+1,c,h=>λv q hm=>by
    rw[Con.mem_iff]at hm ⊢;exact⟨hm.1,λp d=>Con.mem_sl n p zbB_ v q (hm.2 p d)⟩
theorem Tre.mem_sl:∀ (n:Nat) (t:Tre),t.tz<=n->∀ (v:Vw) (q:Prop),t.mem v->t.mem ⟨v.im,v.w,q⟩
  | 0,t,h=>by grind[Tre.tz_pos]
  | n+1,t,h=>λv q hm=>by
    rw[Tre.mem_iff]at hm ⊢;exact⟨Con.mem_sl _ _ (yad_ _) v q hm.1,hm.2.1,λp d=>Tre.mem_sl n p (by have:=Tre.tz_part d;omega) v q (hm.2.2 p d)⟩
def pE_ (x w:Tre):Int:=Con.cmp x.con w.con
theorem wkoT:Wko pE_ where
  irr x:=by grind[pE_,Con.cmp_self]
  tr x y z h1 h2:=Con.cmp_lt h1 h2
  ntr x y z h1 h2 h:=by
    unfold pE_ at *;have k:=Con.cmp_anti x.con y.con;have e:=Con.cmp_anti y.con z.con;have d:=Con.cmp_anti x.con z.con;have:=Con.cmp_tr z.con y.con x.con
    grind[Tr3]
theorem Ca_ {sv:Value} {d:List Tre} {Hr:Hp} (h:at_ 171 7 sv d.length (d.flatMap Tre.cells) Hr) (hl:d.length<=1000000) (e:∀ t∈d,kg_ t) :
    Tri prog 199 #[sv,.func (.func 119) #[] #[]] Hr [cV_ d] (λ_:{y:Hp×List Tre // at_ 171 7 sv y.2.length (y.2.flatMap Tre.cells) y.1/\y.2.Perm d/\y.2.Pairwise λa b=>¬ pE_ b a<0}=>.tuple #[]) (λy=>y.1.1) (λ_=>[]) :=
  sortG (Γ:=[cV_ d]) Tryz.sortTr Tre.cells_len zae_ Tre.cells_one hO_ aL_ wkoT (callable func119 rfl rfl) (callable func199 rfl rfl)
    (λv q B=>⟨λt A=>Tre.mem_sl _ t (yad_ _) v q (B.1 t A),trivial⟩) h zaa_
    (λx m y k=>by
      have T:=ma_ _ x y (yad_ _) (e x m).1 (e y k).1 (e x m).2 (e y k).2;exact⟨T.callable,λv a b=>T.run v a ⟨b.1 x m,b.1 y k,trivial⟩⟩)
theorem wP_:∀ (l:List Tre) (x:Tre),(x::l).Pairwise (λa b=>¬ pE_ b a<0)->((cpG qT x l).Pairwise λa b=>pE_ a b<0)/\(∀ z∈cpG qT x l,pE_ x z<0)/\(∀ z∈l,z.con.core=x.con.core\/∃ w∈cpG qT x l,w.con.core=z.con.core)
  | [],x,_=>by simp[cpG]
  | y::l,x,h=>by
    rw[ybk_]at h;have d:¬ pE_ y x<0:=h.1 y zai_;obtain⟨k,e,m⟩:=wP_ l y h.2
    grind[cpG,qT,Con.cmp_zero,pE_,Con.cmp_anti,List.pairwise_cons,Con.cmp_lt,List.mem_cons_of_mem]
theorem Dc_ {S:List Tre} (h:S.Pairwise λa b=>¬ pE_ b a<0):Con.SrC ((cpL qT S).map Tre.con)/\∀ z,z∈((cpL qT S).map Tre.con).map Con.core↔z∈(S.map Tre.con).map Con.core:=by
 cases S with
 | nil=>exact⟨List.Pairwise.nil,λz=>Iff.rfl⟩
 | cons x l =>
   obtain⟨d,e,k⟩:=wP_ l x h;refine⟨?_,λz=>⟨λm=>?_,λm=>?_⟩⟩
   . unfold Con.SrC
     rw[ybZ_];simp only[cpL];rw[ybk_];exact⟨e,d⟩
   all_goals grind[sg_,cpL]
theorem rb_:∀ {a b:List Con},a.map Con.core=b.map Con.core->(a.find? λc=>decide (c.kind=2)).map Con.core=(b.find? λc=>decide (c.kind=2)).map Con.core
 | [],[],_=>rfl
 | [],y::b,h=>by simp at h
 | x::a,[],h=>by simp at h
 | x::a,y::b,h=>by
   rw[yar_,yar_,yaP_]at h;have hk:x.kind=y.kind:=Con.core_kind h.1;rw[List.find?_cons,List.find?_cons,hk]
   split
   . simp[h.1]
   . exact rb_ h.2
theorem meetF_core {a b:List Con} (h:a.map Con.core=b.map Con.core):(Con.meetF a).2=(Con.meetF b).2/\(Con.meetF a).1.core=(Con.meetF b).1.core:=by
  have d:=rb_ h;have hl:a.length=b.length:=by have:=yae_ List.length h;grind
  unfold Con.meetF;cases e:a.find? λc=>decide (c.kind=2) with
  | some x =>
    grind
  | none =>
    rw[e]at d;cases e2:b.find? λc=>decide (c.kind=2) with
    | some y=>grind
    | none =>
      dsimp only
      match a,b,h,hl with
      | [],[],_,_=>simp
      | [x],[y],h,_=>grind
      | x::x2::a,y::y2::b,h,hl =>
        grind[Con.core_eq,Con.kind,Con.name,Con.lo,Con.hi,Con.parts]
theorem CS_ {l:List Con} {k:Nat} {x:Con} (e:∀ c∈l.take k,c.kind≠2) (d:l[k]? = some x) (hk:x.kind=2):(l.find? λc=>decide (c.kind=2))=some x:=by
  induction l generalizing k with
  | nil=>simp at d
  | cons y l ih =>
    cases k<;>grind
theorem jP_ {l:List Con} (d:∀ c∈l,c.kind≠2):(l.find? λc=>decide (c.kind=2))=none:=by
  grind
def TdR (c:Con) (y:Con×Int):Prop:=y.2=c.tdy.2/\(y.2=0->y.1.core=c.tdy.1.core/\y.1.ok)
def MtE (ps:List Con):Con×Int:=if Con.erF (ps.map Con.tdy)≠0 then (Con.zeroC,Con.erF (ps.map Con.tdy)) else Con.meetF (Con.srtC ((ps.map Con.tdy).flatMap λz=>Con.flat1 z.1))
def MtR (ps:List Con) (y:Con×Int):Prop:=y.2=(MtE ps).2/\(y.2=0->y.1.core=(MtE ps).1.core/\y.1.ok)
theorem AS_:∀ {l:List (Con×Int)} {i:Nat} {z:Con×Int},Con.erF (l.take i)=0->l[i]? = some z->z.2≠0->Con.erF l=z.2
 | [],_,_,_,h,_=>by simp at h
 | y::l,0,z,_,h,hz=>by grind[Con.erF]
 | y::l,i+1,z,h0,h,hz=>by
   rw[ybS_]at h0;simp only[Con.erF]at h0 ⊢
   by_cases e:y.2≠0
   . grind
   . rw[yag_ e]at h0 ⊢
     exact AS_ h0 zak_ hz
theorem AQ_ {l:List (Con×Int)} {i:Nat} {z:Con×Int} (d:Con.erF (l.take i)=0) (h:l[i]? = some z) (e:z.2=0):Con.erF (l.take (i+1))=0:=by
  induction l generalizing i<;>grind[Con.erF]
theorem vB_ {a b:Con} (h:a.core=b.core):(Con.flat1 a).map Con.core=(Con.flat1 b).map Con.core:=by
  grind[Con.core_kind,Con.flat1,Con.core_parts]
structure McI (ps:List Con) (i:Nat) (ts:List Tre):Prop where
  core:(ts.map Tre.con).map Con.core=(((ps.map Con.tdy).take i).flatMap λz=>Con.flat1 z.1).map Con.core
  er:Con.erF ((ps.map Con.tdy).take i)=0
  good:∀ t∈ts,kg_ t/\t.con.ok
theorem xp_ {a b:List Con} (h:a.map Con.core=b.map Con.core):Con.sz.szs a=Con.sz.szs b:=by grind[Con.szs_core,Con.cores_map]
theorem zn_:∀ ps:List Con,Con.sz.szs ((ps.map Con.tdy).flatMap λz=>Con.flat1 z.1)<=Con.sz.szs ps:=λps=>by
  have:=Con.tdys_sz ps
  grind[Con.tdys_map]
theorem McI.size {ps:List Con} {i:Nat} {d:List Tre} (h:McI ps i d):Con.sz.szs (d.map Tre.con)<=Con.sz.szs (ps.take i):=by
  rw[xp_ h.core,<-ycE_]
  grind[zn_]
theorem McI.len {ps:List Con} {i:Nat} {d:List Tre} (h:McI ps i d):d.length<=Con.sz.szs (ps.take i):=by
  have e:=szs_len (d.map Tre.con);rw[yaC_]at e;have:=h.size;omega
theorem McI.nil {ps:List Con}:McI ps 0 []:=⟨by simp,rfl,by simp⟩
theorem McI.add {ps:List Con} {i:Nat} {x us:List Tre} {p q:Con} {e:Int} (h:McI ps i x) (C:ps[i]? = some p) (A:TdR p (q,e)) (B:e=0) (E:(us.map Tre.con).map Con.core=(Con.flat1 q).map Con.core) (F:∀ t∈us,kg_ t/\t.con.ok):McI ps (i+1) (x++us):=by
 subst B;obtain⟨v,k⟩:=A;obtain⟨y,_⟩:=k rfl;have m:(ps.map Con.tdy)[i]? = some p.tdy:=by grind
 have G:(ps.map Con.tdy).take (i+1)=(ps.map Con.tdy).take i++[p.tdy]:=by grind[List.take_add_one]
 refine⟨?_,AQ_ h.er m v.symm,λt d=>?_⟩
 .grind[core,vB_]
 rcases yai_.1 d with d|d
 .exact h.good t d
 grind
theorem McI.done {ps:List Con} {d S:List Tre} (h:McI ps ps.length d) (k:S.Perm d) (e:S.Pairwise λa b=>¬ pE_ b a<0):(Con.meetF ((cpL qT S).map Tre.con)).2=(MtE ps).2/\(Con.meetF ((cpL qT S).map Tre.con)).1.core=(MtE ps).1.core:=by
  obtain⟨x,v⟩:=Dc_ e;have m:Con.erF (ps.map Con.tdy)=0:=by have:=h.er;grind[List.take_of_length_le]
  have y:=h.core
  grind[List.take_of_length_le,Con.srtC_uniq,meetF_core,MtE]
theorem MtE_er {ps:List Con} {i:Nat} {p q:Con} {e:Int} {m:List Tre} (h:McI ps i m) (v:ps[i]? = some p) (k:TdR p (q,e)) (x:e≠0):e=(MtE ps).2:=by
  have d:(ps.map Con.tdy)[i]? = some p.tdy:=by grind
  have y:e=p.tdy.2:=k.1;have:=AS_ h.er d zak_
  grind[MtE]
theorem Tre.con_cells (t:Tre):∀ j y,(Con.cells t.con)[j]? = some y->(Tre.cells t)[0+j]? = some y:=by grind[Tre.cells]
theorem yf_ {l:List Con} {b:Con} (h:(l.find? λc=>decide (c.kind=2))=some b):Con.meetF l=(b,0):=by unfold Con.meetF;rw[h]
theorem ye_ {l:List Con} (h:(l.find? λc=>decide (c.kind=2))=none) (d:l.length=0):Con.meetF l=(.mk 1 [] 0 0 none 0 [],0):=by
  grind[Con.meetF]
theorem yd_ {l:List Con} {x:Con} (h:(l.find? λc=>decide (c.kind=2))=none) (e:l.length=1) (d:l[0]? = some x):Con.meetF l=(x,0):=by
  unfold Con.meetF;rw[h]
  match l,e,d with
  | [y],_,d=>grind
theorem yg_ {l:List Con} (h:(l.find? λc=>decide (c.kind=2))=none) (e:l.length≠0) (d:l.length≠1) (k:8<l.length):Con.meetF l=(Con.zeroC,2):=by
  unfold Con.meetF;grind
theorem yh_ {l:List Con} (h:(l.find? λc=>decide (c.kind=2))=none) (e:l.length≠0) (d:l.length≠1) (k:¬ 8<l.length):Con.meetF l=(.mk 5 [] 0 0 none 0 l,0):=by
  unfold Con.meetF;grind
end Go.Proofs.YtbffkokbdeppaaaGreatDoor
