/-
  Lemmas for the law ModuleTypes (no condition).
-/
import Derived.Test.YthmjeabeoodghaaGreatDoorQModuleTypes14
set_option linter.unusedVariables false
set_option linter.unusedSimpArgs false
set_option linter.unusedSectionVars false
set_option maxHeartbeats 1000000
namespace Go.Proofs.YthmjeabeoodghaaGreatDoor
open Go Go.Sx Go.Proofs Tryz
attribute [local irreducible] Code.wp wpList wpAnyH
open Go.Vs
def pw_ (x:Ax):Prop:=x.left.core=(if x.swp then x.tdyR.core else x.tdyL.core)∧x.right.core=if x.swp then x.tdyL.core else x.tdyR.core
theorem pX_ {x y:Ax} (h:TdyOf x y):x.alk y↔pw_ x :=
  ⟨fun⟨_,d,e,_⟩=>⟨by rw[d,h.left],by rw[e,h.right]⟩,fun⟨d,e⟩=>⟨h.kind.symm,by rw[d,h.left],by rw[e,h.right],h.roles.symm,h.role.symm,h.a.symm,h.b.symm⟩⟩
instance (x:Ax):Decidable (pw_ x):=decidable_of_iff (Con.cmp x.left (if x.swp then x.tdyR else x.tdyL)=0∧Con.cmp x.right (if x.swp then x.tdyL else x.tdyR)=0) (by
 rw[Con.cmp_zero,Con.cmp_zero];unfold pw_
 by_cases h:x.swp
 ·simp only[if_pos h]
 simp only[if_neg h])
def hV_ (x:Ax):Int:=if x.tdyE≠0 then x.tdyE else if pw_ x then 0 else 22
def axE:List Ax→Int
  | []=>0
  | x::l=>if hV_ x≠0 then hV_ x else axE l
theorem AG_:∀ {l:List Ax} {i:Nat} {x:Ax},(∀ z∈l.take i,hV_ z=0)→l[i]? = some x→hV_ x≠0→axE l=hV_ x
  | [],_,_,_,h,_=>by simp at h
  | y::l,0,x,_,h,hx=>by simp at h;subst h;simp[axE,hx]
  | y::l,i+1,x,h0,h,hx=>by
    have e:hV_ y=0:=h0 y zaf_;simp only[axE];rw[if_neg (by rw[e];simp)];exact AG_ (i:=i) (fun z d=>h0 z zbP_) zaB_ hx
theorem hK_:∀ {l:List Ax},axE l=0↔∀ z∈l,hV_ z=0
 | []=>by simp[axE]
 | y::l=>by
   simp only[axE]
   by_cases h:hV_ y=0
   · rw[if_neg zbp_,hK_];simp[h]
   · rw[if_pos h]
     exact⟨fun q=>absurd q h,fun q=>absurd (q y zaf_) h⟩
def js_ (l:List Ax):Prop:=∀ (i:Nat) (x y:Ax),l[i]? = some x→l[i+1]? = some y→Ax.cmp x y=-1
def rb_ (x:Ax):Prop:=vN_ x=true∧x.opn=false
def BCk (l:List Ax) (e:Int):Prop :=
  (axE l≠0∧e=axE l)∨(axE l=0∧¬ js_ l∧e=70)∨(axE l=0∧js_ l∧1024<l.length∧e=2)∨(axE l=0∧js_ l∧l.length≤1024∧(∃ x∈l,rb_ x)∧e=71) ∨
    (axE l=0∧js_ l∧l.length≤1024∧(∀ x∈l,¬ rb_ x)∧RlR l e)
theorem BCk.uniq {l:List Ax} {a b:Int} (h:BCk l a) (k:BCk l b):a=b:=by
  rcases h with⟨d,e⟩|⟨d,e,B⟩|⟨d,e,B,v⟩|⟨d,e,B,v,E⟩|⟨d,e,B,v,E⟩<;>rcases k with⟨k1,k2⟩|⟨k1,k2,C⟩|⟨k1,k2,C,m⟩|⟨k1,k2,C,m,F⟩|⟨k1,k2,C,m,F⟩ <;>
    first|(exact absurd d k1)|(exact absurd k1 d)|(exact absurd e k2)|(exact absurd k2 e)|omega|(obtain⟨x,y,A⟩:=v;exact absurd A (m x y))|(obtain⟨x,y,A⟩:=m;exact absurd A (v x y))|exact E.uniq F
theorem oi_ {x:Ax} (h:x.tdyE=0):x.check=0:=by
 by_cases e:x.check=0
 ·exact e
 unfold Ax.tdyE at h;rw[if_pos e]at h;exact h
theorem lA_ {x:Ax}:hV_ x=0↔x.tdyE=0∧pw_ x:=by
 unfold hV_
 by_cases h:x.tdyE=0
 ·rw[if_neg zbp_]
  by_cases c:pw_ x
  ·rw[if_pos c];exact⟨fun _=>⟨h,c⟩,fun _=>rfl⟩
  rw[if_neg c];exact⟨fun q=>by omega,fun q=>absurd q.2 c⟩
 rw[if_pos h];exact⟨fun q=>absurd q h,fun q=>q.1⟩
theorem tidE_a {x y:Ax} {e:Int} (h:TyR x (y,e)) (m:e≠0):hV_ x=e:=by
  have d:e=x.tdyE:=h.1;unfold hV_;rw[if_pos (by rw[← d];exact m),d]
theorem tidE_b {x y:Ax} {e:Int} (h:TyR x (y,e)) (d:e=0) (A:¬ x.alk y):hV_ x=22:=by
  have m:e=x.tdyE:=h.1;have v:=pX_ (h.2 d).1;unfold hV_;rw[if_neg (by rw[← m,d];simp),if_neg fun q=>A (v.2 q)]
theorem tidE_c {x y:Ax} {e:Int} (h:TyR x (y,e)) (d:e=0) (A:x.alk y):hV_ x=0:=by
  have m:e=x.tdyE:=h.1;have v:=pX_ (h.2 d).1;exact lA_.2 ⟨by rw[← m,d],v.1 A⟩
theorem tJ_ {c:Con} (h:c.empty=true):c.sz=1:=by
  cases c with
  | mk k n l hi ad cp ps =>
    unfold Con.empty at h;simp only[Bool.and_eq_true,beq_iff_eq,Con.parts]at h;have:ps=[]:=List.eq_nil_of_length_eq_zero zaa_;subst this;simp[Con.sz,Con.sz.szs]
theorem is_ {x:Ax} (h:x.check=0):x.left.sz≤64∧x.right.sz≤64:=by
 have m:=jm_ h;have v:=wB_ h;unfold Ax.shaped at m;rw[if_neg zaa_]at m;simp only[Bool.and_eq_true,Bool.or_eq_true]at m;obtain⟨⟨⟨⟨⟨⟨d,e⟩,_⟩,_⟩,_⟩,_⟩,_⟩:=m;constructor
 ·rcases d with d|d
  ·exact (Con.check_zero (jM_ h d)).2
  rw[tJ_ d];omega
 rcases e with e|e
 ·exact (Con.check_zero (hJ_ h e)).2
 rw[tJ_ e];omega
theorem yM_ {x:Ax} (h:x.check=0):x.tdyL.sz≤64∧x.tdyR.sz≤64:=by
  have d:=is_ h;have e:=Con.tdy_sz x.left;have m:=Con.tdy_sz x.right;unfold Ax.tdyL Ax.tdyR;constructor<;>split<;>omega
theorem yL_ {x y:Ax} (h:TdyOf x y) (v:x.check=0):y.left.sz≤64∧y.right.sz≤64:=by
 have m:=yM_ v;have e:=h.left;have d:=h.right
 by_cases c:x.swp
 ·rw[if_pos c]at e d
  rw[Con.sz_core _ _ e,Con.sz_core _ _ d];exact⟨m.2,m.1⟩
 rw[if_neg c]at e d;rw[Con.sz_core _ _ e,Con.sz_core _ _ d];exact m
theorem js_.step {l:List Ax} {k:Nat} {x y:Ax} (h:∀ (i:Nat) (x y:Ax),i+1<k+1→l[i]? = some x→l[i+1]? = some y→Ax.cmp x y=-1) (C:l[k]? = some x) (v:l[k+1]? = some y) (A:Ax.cmp x y=-1) :
    ∀ (i:Nat) (x y:Ax),i+1<k+1+1→l[i]? = some x→l[i+1]? = some y→Ax.cmp x y=-1:=fun i E B hi d m=>by
  by_cases e:i=k
  · subst e;rw[C]at d;rw[v]at m;cases d;cases m;exact A
  · exact h i E B zaa_ d m
theorem js_.all {l:List Ax} {k:Nat} (h:∀ (i:Nat) (x y:Ax),i+1<k→l[i]? = some x→l[i+1]? = some y→Ax.cmp x y=-1) (m:l.length≤k):js_ l:=fun i x y e d=>h i x y zcd_ e d
theorem BCk.er {l:List Ax} {i:Nat} {x:Ax} {e:Int} (v:∀ z∈l.take i,hV_ z=0) (m:l[i]? = some x) (d:hV_ x=e) (h:e≠0):BCk l e:=by
  have:=AG_ v m (by rw[d];exact h);exact .inl ⟨by rw[this,d];exact h,by rw[this,d]⟩
theorem uf_ {l:List Ax} {i:Nat} {p:Ax→Prop} (h:∀ z∈l.take i,p z) (hi:l.length≤i):∀ z∈l,p z:=by rwa [List.take_of_length_le hi]at h
theorem sA_ {l:List Ax} {i:Nat} {x:Ax} {p:Ax→Prop} (h:∀ z∈l.take i,p z) (m:l[i]? = some x) (e:p x):∀ z∈l.take (i+1),p z:=fun z d=>by
 rw[take_snoc m,List.mem_append,List.mem_singleton]at d;rcases d with d|rfl
 ·exact h z d
 exact e
theorem gq_ {l:List Ax} (h:axE l=0):∀ x∈l,x.check=0:=fun x d=>oi_ (lA_.1 (hK_.1 h x d)).1
theorem bk_eq {a:Bool} {n:Int} (h:(a&&(n==0))=true):a=true∧n=0:=by simpa using h
theorem bk_ne {x y:Ax} {e:Int} (h:((x.opn==y.opn)&&(Ax.cmp x y==0))=false) (A:TyR x (y,e)) (v:e=0):¬ x.alk y:=fun q=>by
  have m:=(Ax.cmp_zero _ _).2 q;have d:=(A.2 v).1.opn;dsimp only at d;rw[m,d]at h;simp at h
theorem mP_ {G:Prop} (h:G:=by
 exact x_ ⟨j+1,K,(sA_ hN L (by unfold rb_;intro q;simp_all))⟩ zab_ zl (c_ d_) zh):G:=h
set_option maxHeartbeats 1000000 in
theorem jk_ (l:List Ax) (ad:Ao) (cap:Nat) (O:∀ x∈l,x.ok) (hll:l.length≤1000000):Tri prog 20 #[.agg #[.slice ad l.length cap]] [] [ch_ ad l,bN_] (fun y:{e:Int // BCk l e}=>.int .i64 y.1) (fun _=>[]) (fun _=>[]):=by
 refine j_ func20 rfl rfl ntmps20 rfl fun v_1=>?_;refine Zz 2 ?_;refine K_ rfl rfl fun M=>Zz 13 ?_
 refine O_ (ι:={y:Nat // y≤List.length l∧(∀ z∈List.take y l,hV_ z=0)}) (fun y=>[(1,zp_ M 0),(2,.int .i64 0),(11,.slice ad l.length cap),(12,.int .i64 (List.length l:Int)),(13,.int .i64 (y.1:Int))]) (fun y=>((M,.cells #[.slice ad l.length cap] 24 (0,0))::[])) (fun y=>[ch_ ad l,bN_]) (fun y=>l.length - y.1) ⟨(0:Nat),by simp,zaf_⟩ zl d_ zh ?_;rintro ⟨i,Y,hE⟩;dsimp only at Y hE ⊢;refine Zi 2 (fun W=>?_) fun W=>?_
 ·refine Zz 13 ?_
  have J:axE l=0:=hK_.2 (uf_ hE zaa_);have hC:=gq_ J;refine O_ (ι:={y:Nat // 1≤y∧(∀ (n:Nat) (p q:Ax),n+1<y→l[n]? = some p→l[n+1]? = some q→Ax.cmp p q=-1)}) (fun y=>[(1,zp_ M 0),(2,.int .i64 0),(7,.int .i64 (y.1:Int))]) (fun y=>((M,.cells #[.slice ad l.length cap] 24 (0,0))::[])) (fun y=>[ch_ ad l,bN_]) (fun y=>l.length - y.1) ⟨(1:Nat),zaf_,(fun i x y h=>by omega)⟩ zl d_ zh ?_;rintro ⟨a2,a1,hS⟩;dsimp only at a1 hS ⊢;refine Zi 7 (fun F=>?_) fun F=>?_
  ·refine Zi 11 (fun B=>?_) fun B=>?_
   ·refine Zz 15 ?_
    have Q:js_ l:=js_.all hS zaa_;refine O_ (ι:={y:Nat // y≤List.length l∧(∀ z∈List.take y l,¬ rb_ z)}) (fun y=>[(1,zp_ M 0),(2,.int .i64 0),(56,.slice ad l.length cap),(57,.int .i64 (List.length l:Int)),(58,.int .i64 (y.1:Int))]) (fun y=>((M,.cells #[.slice ad l.length cap] 24 (0,0))::[])) (fun y=>[ch_ ad l,bN_]) (fun y=>l.length - y.1) ⟨(0:Nat),by simp,zaf_⟩ zl d_ zh ?_;rintro ⟨j,X,hN⟩;dsimp only at X hN ⊢;refine Zi 2 (fun a0=>?_) fun a0=>?_
    ·refine Zz 10 ?_
     refine f_ (xf_ l ad cap O hC zaa_) rfl g_ zf rfl fun⟨⟨rv,re⟩,hre⟩=>?_;dsimp only;refine Zz 13 ?_;exact aa_ oy_ ⟨re,.inr (.inr (.inr (.inr ⟨J,Q,by omega,uf_ hN zaa_,hre⟩)))⟩ rfl g_ zt
    have K:j<l.length:=by omega
    obtain⟨R,L⟩:∃ N,l[j]? = some N:=⟨_,List.getElem?_eq_getElem K⟩;have T:R∈l:=List.mem_of_getElem? L;refine Zz 12 ?_;refine y_ aG_ rfl fun b_2=>o_ 0 H_ rfl rfl rfl rfl rfl rfl (Zz 5 ?_)
    refine an_ (vy_ R) rfl g_ zt rfl fun V hr_5=>Zz 1 ?_
    cases V
    ·refine Zz 14 ?_
     exact mP_
    refine Zz 4 ?_;generalize hzo:Ax.opn R=zo
    refine ar_ rfl rfl (e_ (aR_ rfl) rfl (Zz 3 ?_));cases zo
    ·refine Zz 7 ?_
     exact aa_ oy_ ⟨71,.inr (.inr (.inr (.inl ⟨J,Q,by omega,⟨R,T,by unfold rb_;simp_all⟩,rfl⟩)))⟩ rfl g_ zt
    refine Zz 8 ?_;exact mP_
   refine Zz 9 ?_;have Q:js_ l:=js_.all hS zaa_;exact aa_ oy_ ⟨2,.inr (.inr (.inl ⟨J,Q,by omega,rfl⟩))⟩ rfl g_ zt
  obtain⟨I,rfl⟩:∃ I,a2=I+1:=⟨a2 - 1,by omega⟩;obtain⟨P,A,E,d⟩:=zge (show I<l.length by omega);have U:(I+1:Nat)<l.length:=by omega
  obtain⟨H,m⟩:∃ N,l[(I+1:Nat)]? = some N:=⟨_,List.getElem?_eq_getElem U⟩;have G:H∈l:=List.mem_of_getElem? m;refine Zz 9 ?_;refine D_ 2 [0,1,2,3,4,5,6,7,8,9,10] zk zs (Zz 3 ?_);refine T_ rfl (ao_ (aI_ rfl rfl rfl (bv_ zaa_ zaa_)) (show _=Value.int .i64 (I:Int) from congrArg _ zaa_)) rfl (Zz 8 ?_);refine p_ 11 rfl zk (f_ (wv_ A H (O A d) (O H G) (by have:=(is_ (hC A d)).1;omega) (by have:=(is_ (hC A d)).2;omega) (by have:=(is_ (hC H G)).1;omega) (by have:=(is_ (hC H G)).2;omega)) rfl g_ (fun v _ h=>by exact⟨(h.1.2 A d),(h.1.2 H G),trivial⟩) rfl fun _=>?_);refine Zz 3 ?_;refine D_ 0 [12] zk zs ?_;refine Zi 0 (fun B=>?_) fun B=>?_
  ·refine Zz 8 ?_
   refine e_ (ao_ (aI_ rfl rfl rfl (bv_ zaa_ zaa_)) (show _=Value.int .i64 ((I+1+1:Nat):Int) from congrArg _ zaa_)) rfl (Zz 3 ?_);exact x_ ⟨I+1+1,zaa_,(js_.step hS E m (by simpa using B))⟩ zab_ zl d_ zh
  refine Zz 10 ?_;exact aa_ oy_ ⟨70,.inr (.inl ⟨J,fun q=>B (q I A H E m),rfl⟩)⟩ rfl g_ zt
 obtain⟨P,A,E,d⟩:=zge (show i<l.length by omega);refine Zz 12 ?_;refine y_ aG_ rfl fun b_2=>o_ 0 H_ rfl rfl rfl rfl rfl rfl (Zz 5 ?_)
 refine f_ (sz_ A (O A d)) rfl g_ (fun v _ h=>by exact⟨(h.1.2 A d),h.2.1,trivial⟩) rfl fun⟨⟨H,N⟩,m⟩=>?_;dsimp only;try dsimp only at m
 refine Zz 3 ?_;refine y_ aG_ rfl fun b_3=>o_ 0 H_ rfl rfl rfl rfl rfl rfl (Zi 7 (fun F=>?_) fun F=>?_)
 ·have C:N=0:=by simpa using F
  have S:Ax.check A=0:=oi_ (by have q:=m.1;dsimp only at q;rw[← q,C]);have L:=is_ S;have Z:=yL_ (m.2 C).1 S;dsimp only at Z;refine Zz 8 ?_;refine e_ (u_ strt91 rfl rfl) rfl (Zz 1 ?_);refine an_ (Ck_ A H (O A d) (m.2 C).2 zaa_ zaa_ zaa_ zaa_) rfl g_ (fun v _ h=>by exact⟨(h.2.1.2 A d),h.1,trivial⟩) rfl fun V B=>e_ (aR_ rfl) rfl (Zz 2 ?_)
  cases V
  ·refine Zz 7 ?_
   exact aa_ oy_ ⟨22,BCk.er hE E (tidE_b m C (bk_ne B m C)) zad_⟩ rfl g_ zt
  refine Zz 8 ?_;exact x_ ⟨i+1,P,(sA_ hE E (tidE_c m C ((Ax.cmp_zero _ _).1 (bk_eq B).2)))⟩ zab_ zl (c_ (c_ d_)) (fun _ _ h=>h.2)
 refine Zz 10 ?_;exact aa_ oy_ ⟨N,BCk.er hE E (tidE_a m zaJ_) zaJ_⟩ rfl g_ zt
theorem dR_ (s:Str):Fn0 prog 23 #[str s] (Con.val (Con.mk 3 s 0 0 none 0 [])):=by
  refine j_ func23 rfl rfl ntmps23 rfl fun y=>?_;refine Zz 2 ?_;refine y_ aH_ rfl fun x=>Zz 5 ?_
  refine e_ (u_ iQ_ rfl rfl) rfl (o_ 0 n_ rfl rfl rfl rfl rfl rfl (Zz 3 ?_));exact cS_ () (fun m v d e=>dz_ (us:=Con.cells (Con.mk 3 s 0 0 none 0 [])) 0 results23 ac_ n_ rfl rfl rfl m v d e) g_ (fun v _ h=>trivial)
theorem hX_ (a b:Str):Fn0 prog 24 #[str a,str b] (Ax.val (Ax.mk 1 false (Con.mk 3 a 0 0 none 0 []) (Con.mk 3 b 0 0 none 0 []) none 0 [] [] [] [])):=by
  refine j_ func24 rfl rfl ntmps24 rfl fun y=>?_;refine Zz 2 ?_;refine y_ aG_ rfl fun m=>Zz 5 ?_
  refine f_ (dR_ a) rfl g_ zt rfl fun _=>Zz 1 ?_
  refine f_ (dR_ b) rfl g_ zt rfl fun _=>e_ (u_ strt30 rfl rfl) rfl (o_ 0 H_ rfl rfl rfl rfl rfl rfl (Zz 3 ?_))
  exact cS_ () (fun x v d e=>dz_ (us:=Ax.cells (Ax.mk 1 false (Con.mk 3 a 0 0 none 0 []) (Con.mk 3 b 0 0 none 0 []) none 0 [] [] [] [])) 0 results24 bq_ H_ rfl rfl rfl x v d e) g_ (fun v _ h=>trivial)
theorem Cj_ (d:List Ax) (lad:Ao) (lcap:Nat) (e:d.length≤lcap∧lcap≤2199023255488) (m:∀ x∈d,x.ok):Tri prog 7 #[.slice lad d.length lcap] [] [ch_ lad d] (fun b:{b:Bool // b=true→d.length≤12∧∀ x∈d,Ax.Few x}=>.bool b.1) (fun _=>[]) (fun _=>[]):=by
  refine j_ func7 rfl rfl ntmps7 rfl fun y=>?_;refine Zz 8 ?_;refine f_ (rO_ d lad lcap 12 e m) rfl g_ zf rfl fun⟨r,v⟩=>?_;dsimp only;refine Zz 4 ?_;exact aa_ results7 ⟨r,fun h=>⟨by have:=(v h).1;omega,(v h).2⟩⟩ rfl (.refl _) zt
theorem eh_ (h:List Ax) (lad:Ao) (lcap:Nat) (F:h.length≤lcap∧lcap≤2199023255488) (L:∀ x∈h,x.ok) (N:h.length≤100000000) (S:List Str) (sad:Ao) (B:Nat) (hS:S.length≤100000000) (J:∀ s∈S,s.length≤100000) (p:List Pc) (er:Int) (M:aL_ h=(p,er)) (U:p.length≤100000000) (d:List Int) (m:Ao) (v:Nat) (X:d.length≤100000000) (W:ks_ h p er S=(d,0)):Tri prog 25 #[.slice lad h.length lcap,.slice sad S.length B,.slice m d.length v] [] [ch_ lad h,bN_,X_ sad (S.flatMap au_),X_ m (d.flatMap cY_)] (fun _:Unit=>.bool true) (fun _=>[]) (fun _=>[]):=by
 refine j_ func25 rfl rfl ntmps25 rfl fun T=>?_;refine Zz 9 ?_;refine f_ (wJ_ h lad lcap F L N S sad B hS J p er M U d 0 W) rfl g_ zf rfl fun⟨⟨E,H⟩,O,Q,P⟩=>?_;dsimp only;refine Zz 11 ?_;refine e_ (ao_ (cl_ rfl rfl) (show _=Value.bool false from congrArg Value.bool zad_)) rfl (Zi 10 (fun A=>?_) fun A=>?_)
 ·refine Zz 13 ?_
  refine O_ (ι:={y:Nat // y≤List.length d}) (fun y=>[(2,.slice m d.length v),(6,.bool false),(7,.slice E d.length H),(9,.int .i64 (y.1:Int))]) (fun y=>([])) (fun y=>[X_ E (d.flatMap cY_),ch_ lad h,bN_,X_ sad (S.flatMap au_),X_ m (d.flatMap cY_)]) (fun y=>d.length - y.1) ⟨(0:Nat),by simp⟩ zl g_ zh ?_;rintro ⟨i,G⟩;dsimp only at G ⊢;refine Zi 6 (fun I=>?_) fun I=>?_
  ·refine Zz 11 ?_
   exact aa_ results25 () rfl g_ zt
  have e:i<d.length:=by omega
  obtain⟨V,R⟩:∃ K,d[i]? = some K:=⟨_,List.getElem?_eq_getElem e⟩;refine Zz 9 ?_;refine D_ 0 [0,1,2,3,4,5,6,7,8] zk zs (Zi 8 (fun C=>?_) fun C=>?_)
  ·refine Zz 12 ?_
   exact x_ ⟨i+1,e⟩ zab_ zl g_ zh
  exact absurd rfl C
 exact absurd rfl A
theorem qV_ {l:List Ax} {S:List Str} (v:l.length≤12) (h:∀ x∈l,x.ok) (m:∀ x∈l,x.check=0) (e:fs_ S=true) (hS:S.length≤8):cC_ (bo_ 0 l++cV_ S)=0:=by
 have hl:=pg_ 0 l m;unfold cC_;rw[if_neg (by rw[List.length_append,cV_,List.length_map];omega),if_pos];rw[List.all_eq_true];intro x d;rcases List.mem_append.1 d with d|d
 ·exact (ph_ l 0 zaa_ h m x d).2.2.2
 obtain⟨s,y,rfl⟩:=List.mem_map.1 d;unfold fs_ at e;rw[Bool.and_eq_true,List.all_eq_true]at e;exact xH_ (e.2 s y)
end Go.Proofs.YthmjeabeoodghaaGreatDoor
namespace Go.Vs
open Go Go.Sx
def Rng (z:Int):Prop:=z=-1∨z=0∨z=1
theorem rr_:∀ {l:List Int},(∀ z∈l,Rng z)→Rng (orF l)
 | [],_=>.inr (.inl rfl)
 | x::l,h=>by
   rw[orF]
   split
   · exact rr_ fun z d=>h z (List.mem_cons_of_mem _ d)
   · exact h x zaf_
theorem ma_ (x y:Int):Rng (Lib.compareInt x y):=by unfold Lib.compareInt Rng;(repeat' split)<;>omega
theorem lZ_:∀ (x y:Str),Rng (Lib.compareBytes x y)
 | [],[]=>by simp[Lib.compareBytes,Rng]
 | [],b::y=>by simp[Lib.compareBytes,Rng]
 | a::x,[]=>by simp[Lib.compareBytes,Rng]
 | a::x,b::y=>by
   rw[Lib.compareBytes]
   split
   · exact .inl rfl
   · split
     · exact .inr (.inr rfl)
     · exact lZ_ x y
theorem AE_:∀ (x y:List Str),Rng (dJ_ x y)
 | [],[]=>by simp[dJ_,Rng]
 | [],b::y=>by simp[dJ_,Rng]
 | a::x,[]=>by simp[dJ_,Rng]
 | a::x,b::y=>by
   rw[dJ_]
   split
   · exact AE_ x y
   · exact lZ_ a b
namespace Con
theorem tT_:∀ (n:Nat),(∀ a b:Con,a.sz≤n→Rng (cmp a b))→∀ xs ys:List Con,(∀ p∈xs,p.sz≤n)→Rng (cmp.cmps xs ys)
 | n,h,[],[],_=>by simp[cmp.cmps,Rng]
 | n,h,[],b::y,_=>by simp[cmp.cmps,Rng]
 | n,h,a::x,[],_=>by simp[cmp.cmps,Rng]
 | n,h,a::x,b::y,hs=>by
   rw[cmp.cmps]
   split
   · exact tT_ n h x y fun p d=>hs p (List.mem_cons_of_mem _ d)
   · exact h a b (hs a zaf_)
theorem cmp_rng:∀ (n:Nat) (a b:Con),a.sz≤n→Rng (cmp a b)
 | 0,a,b,h=>by have:=sz_pos a;omega
 | n+1,a,b,h=>by
   rw[cmp_eq];refine rr_ fun z d=>?_;simp only[List.mem_cons,List.not_mem_nil,or_false]at d;rcases d with rfl|rfl|rfl|rfl|rfl|rfl
   · exact ma_ _ _
   · exact ma_ _ _
   · exact lZ_ _ _
   · exact ma_ _ _
   · exact ma_ _ _
   · exact tT_ n (fun a b h=>cmp_rng n a b h) _ _ fun p e=>by have:=sz_part e;omega
end Con
theorem Ax.cmp_rng (x y:Ax):Rng (cmp x y):=by
 unfold cmp;refine rr_ fun z d=>?_;simp only[List.mem_cons,List.not_mem_nil,or_false]at d;rcases d with rfl|rfl|rfl|rfl|rfl|rfl|rfl|rfl
 ·exact ma_ _ _
 ·exact ma_ _ _
 ·exact Con.cmp_rng _ _ _ (Nat.le_refl _)
 ·exact Con.cmp_rng _ _ _ (Nat.le_refl _)
 ·exact AE_ _ _
 ·exact lZ_ _ _
 ·exact lZ_ _ _
 exact lZ_ _ _
theorem Ax.cmp_m1 {x y:Ax}:cmp x y=-1↔cmp x y<0:=by
  have:=cmp_rng x y;unfold Rng at this;omega
end Go.Vs
namespace Go.Proofs.YthmjeabeoodghaaGreatDoor
open Go Go.Sx Go.Proofs Tryz
attribute [local irreducible] Code.wp wpList wpAnyH
open Go.Vs
theorem xs_ (l:List Ax) (ad:Ao) (cap:Nat) (d:l.length≤2199023255488) (m:∀ x∈l,x.ok) {p:List Pc} {er:Int} (e:aL_ l=(p,er)) :
    Tri prog 58 #[.slice ad l.length cap] [] [ch_ ad l,bN_] (fun y:{y:Ao×Nat // p.length≤y.2∧y.2≤maxLen∧(y.1=none→y.2=0)}=>.tuple #[.slice y.1.1 p.length y.1.2,.int .i64 er]) (fun _=>[]) (fun y=>[X_ y.1.1 (p.flatMap Pc.cells)]):=by
  have h:=lK_ l ad cap d m;generalize aL_ l=g at h e
  subst e;exact h
def MpR (l:List Ax) (P:List Pc) (e:Int):Prop:=∃ e0,BCk l e0∧((e0≠0∧e=e0∧P=[])∨(e0=0∧e=(aL_ l).2∧P=(aL_ l).1))
def ExR (l:List Ax) (S:List Str) (X:List Ax) (e:Int):Prop:=∃ e0,BCk l e0∧((e0≠0∧e=e0∧X=[])∨(e0=0∧(aL_ l).2≠0∧e=(aL_ l).2∧X=[])∨(e0=0∧(aL_ l).2=0∧fs_ S=false∧e=1∧X=[]) ∨
    (e0=0∧(aL_ l).2=0∧fs_ S=true∧e=0∧X=cE_ l (dt_ l (aL_ l).1 S l.length)))
theorem MpR.ok {l:List Ax} {P:List Pc} {e:Int} (h:MpR l P e) (d:e=0):BCk l 0∧(aL_ l).2=0∧P=(aL_ l).1:=by
 obtain⟨v,m,h|h⟩:=h
 ·exact absurd (h.2.1.symm.trans d) h.1
 exact⟨h.1▸m,h.2.1.symm.trans d,h.2.2⟩
theorem ExR.ok {l:List Ax} {S:List Str} {P:List Pc} {e:Int} (h:MpR l P e) (v:e=0) (m:fs_ S=true):ExR l S (cE_ l (dt_ l P S l.length)) 0:=by
  obtain⟨d,x,y⟩:=h.ok v;exact⟨0,d,.inr (.inr (.inr ⟨rfl,x,m,rfl,by rw[y]⟩))⟩
theorem sX_ {l:List Ax} {p:List Pc} {er:Int} (hl:l.length≤12) (h:aL_ l=(p,er)):p.length≤16384:=by
 have m:∀ (l:List Ax) (i:Nat) (p q:List Pc),p.length≤16384→fD_ i l p=some q→q.length≤16384:=by
   intro l
   induction l with
   | nil=>intro i p q d e;simp only[fD_,Option.some.injEq]at e;rw[← e];exact d
   | cons x l ih =>
     intro i p q d e;simp only[fD_]at e
     split at e
     · cases e
     · rename_i v;exact ih (i+1) _ _ zaa_ e
 unfold aL_ at h
 split at h
 ·cases h;simp
 split at h
 ·cases h;simp
 cases e:fD_ 0 l [] with
 | none=>rw[e]at h;cases h;simp
 | some q=>rw[e]at h;cases h;exact m l 0 [] _ zaf_ e
theorem oD_ {l:List Ax} {p:List Pc} {S:List Str}:∀ k,k≤l.length→(cE_ l (dt_ l p S k)).Sublist (l.take k)
 | 0,_=>by rw[qw_];exact List.Sublist.refl _
 | k+1,hk=>by
   obtain⟨a,d⟩:∃ a,l[k]? = some a:=⟨_,List.getElem?_eq_getElem zaa_⟩;rw[take_snoc d]
   by_cases h:Mat l p S k
   · rw[tj_ h,kw_ (a:=a) zbd_]
     exact (oD_ k zaa_).append (List.Sublist.refl _)
   · rw[wd_ h]
     exact (oD_ k zaa_).trans (List.sublist_append_left _ _)
theorem srt_lt {l:List Ax} (h:js_ l):l.Pairwise fun x y=>Ax.cmp x y<0:=by
  rw[List.pairwise_iff_getElem];intro i j hi e A
  have v:∀ (d:Nat) (i:Nat) (hi:i<l.length) (e:i+d+1<l.length),Ax.cmp l[i] l[i+d+1]<0:=by
    intro d
    induction d with
    | zero=>intro i hi e;have:=h i l[i] l[i+1] (List.getElem?_eq_getElem hi) (List.getElem?_eq_getElem e);show Ax.cmp l[i] l[i+0+1]<0;simp only[Nat.add_zero];omega
    | succ d ih =>
      intro i hi e;have m:=ih i hi zaa_;have B:=h (i+d+1) l[i+d+1] l[i+(d+1)+1] (List.getElem?_eq_getElem zaa_) (by rw[List.getElem?_eq_getElem zaa_];rfl);exact Ax.cmp_lt m zaa_
  have:=v (j - i - 1) i hi zaa_;simpa [show i+(j - i - 1)+1=j by omega] using this
theorem srt_of {l:List Ax} (h:l.Pairwise fun x y=>Ax.cmp x y<0):js_ l:=fun i x y v d=>by
  obtain⟨e,rfl⟩:=List.getElem?_eq_some_iff.1 v;obtain⟨m,rfl⟩:=List.getElem?_eq_some_iff.1 d;exact Ax.cmp_m1.2 (List.pairwise_iff_getElem.1 h i (i+1) e m zaa_)
theorem hI_ {l:List Ax} (h:BCk l 0):axE l=0∧js_ l∧l.length≤1024∧(∀ x∈l,¬ rb_ x)∧RlR l 0:=by
 rcases h with⟨d,e⟩|⟨_,_,v⟩|⟨_,_,_,y⟩|⟨_,_,_,_,m⟩|h
 ·exact absurd e.symm d
 ·omega
 ·omega
 ·omega
 exact h
theorem CC_ {l m:List Ax} (h:BCk l 0) (d:m.Sublist l):BCk m 0:=by
  obtain⟨v,B,A,C,y⟩:=hI_ h;refine .inr (.inr (.inr (.inr ⟨hK_.2 fun z E=>hK_.1 v z (d.subset E),srt_of ((srt_lt B).sublist d),Nat.le_trans d.length_le A,fun x e=>C x (d.subset e),y.sub fun x e=>d.subset e⟩)))
def OfR (l:List Ax) (q:List Pc) (ger:Int) (X:List Ax) (e:Int):Prop:=∃ P e1,MpR l P e1∧((e1≠0∧e=e1∧X=[])∨(e1=0∧ger≠0∧e=ger∧X=[])∨(e1=0∧ger=0∧16384<P.length+q.length∧e=2∧X=[]) ∨
    (e1=0∧ger=0∧P.length+q.length≤16384∧e=0∧X=cE_ l (dt_ l (P++q) (dC_ q) l.length)))
theorem la_ (l:List Ax) (ad:Ao) (cap:Nat) (F:∀ x∈l,x.ok) (I:l.length≤12):Tri prog 30 #[.agg #[.slice ad l.length cap]] [] [ch_ ad l,bN_] (fun y:{y:Ao×Nat×List Pc×Int // MpR l y.2.2.1 y.2.2.2∧y.2.2.1.length≤16384∧y.2.2.1.length≤y.2.1∧(y.1=none→y.2.1=0)}=>.tuple #[.slice y.1.1 y.1.2.2.1.length y.1.2.1,.int .i64 y.1.2.2.2]) (fun _=>[]) (fun y=>[X_ y.1.1 (y.1.2.2.1.flatMap Pc.cells)]):=by
 refine j_ func30 rfl rfl ntmps30 rfl fun J=>?_;obtain⟨⟨p,er⟩,e⟩:∃ q,aL_ l=q:=⟨_,rfl⟩;refine Zz 2 ?_;refine K_ rfl rfl fun K=>Zz 8 ?_
 refine f_ (jk_ l ad cap F zaa_) rfl g_ zf rfl fun⟨A,m⟩=>?_;dsimp only;refine Zi 6 (fun d=>?_) fun d=>?_
 ·refine Zz 9 ?_
  refine f_ (xs_ l ad cap zaa_ F e) rfl g_ zf rfl fun⟨⟨H,E⟩,C,G,B⟩=>?_;dsimp only;refine Zz 7 ?_;exact fO_ results30 ⟨(H,E,p,er),⟨A,m,.inr ⟨by simpa using d,by rw[e],by rw[e]⟩⟩,sX_ I e,C,B⟩ rfl rfl rfl g_ zf
 refine Zz 11 ?_;exact fO_ results30 ⟨(none,0,[],A),⟨A,m,.inl ⟨by simpa using d,rfl,rfl⟩⟩,by simp,by simp,fun _=>rfl⟩ rfl rfl rfl g_ (fun v _ h=>by exact⟨.inl rfl,trivial⟩)
theorem BR_ (l:List Ax) (ad:Ao) (cap:Nat) (a2:∀ x∈l,x.ok) (a4:l.length≤12) (x:Ax) (b7:x.ok) (q:List Pc) (F:List Fc) (P:Int) (b1:GlT x q F P) (b6:q.length≤100000):Tri prog 13 #[.agg #[.slice ad l.length cap],Ax.val x] [] [ch_ ad l,bN_,Ax.memF x] (fun y:{y:Value×Hp×List Ax×Int // az_ 30 16 y.1 y.2.2.1.length (y.2.2.1.flatMap Ax.cells) y.2.1∧OfR l q P y.2.2.1 y.2.2.2}=>.tuple #[.agg #[y.1.1],.int .i64 y.1.2.2.2]) (fun y=>y.1.2.1) (fun _=>[]):=by
 refine j_ func13 rfl rfl ntmps13 rfl fun b4=>?_;refine ax_ ?_;refine ae_ ?_;refine K_ rfl rfl fun a0=>?_;refine K_ rfl rfl fun a3=>?_;refine y_ ke_ rfl fun b_3=>?_;refine e_ (af_ rfl) rfl ?_;refine aA_ ?_;refine am_ rfl ?_;refine ax_ ?_;refine ae_ ?_;refine e_ (cO_ 2 fC_ bH_ rfl rfl rfl) rfl ?_;refine f_ (la_ l ad cap a2 a4) rfl g_ zf rfl fun⟨⟨T,E,p,J⟩,I,a5,L,H⟩=>?_;dsimp only;try dsimp only at I a5 L H
 refine e_ (S_ rfl) rfl ?_;refine e_ (bB_ rfl rfl) rfl ?_;refine e_ (bB_ rfl rfl) rfl ?_;refine e_ (af_ rfl) rfl ?_;refine e_ (af_ rfl) rfl ?_;refine aA_ ?_;refine am_ rfl ?_;refine ax_ ?_;refine ax_ ?_;refine ae_ ?_;refine e_ (S_ rfl) rfl ?_;refine E_ (cl_ rfl rfl) rfl fun b2 d=>?_;refine aA_ ?_;refine am_ rfl ?_;cases b2
 ·replace d:=er_ d
  refine co_ rfl ?_;refine df_ ?_;refine am_ rfl ?_;refine ax_ ?_;refine ae_ ?_;refine e_ (cO_ 1 bq_ H_ rfl rfl rfl) rfl ?_;refine f_ (b1) rfl g_ zf rfl fun⟨⟨M,C,fad,fcap⟩,G,Q,R,S,K⟩=>?_;dsimp only;try dsimp only at G Q R S K
  refine e_ (S_ rfl) rfl ?_;refine e_ (bB_ rfl rfl) rfl ?_;refine e_ (bB_ rfl rfl) rfl ?_;refine e_ (bB_ rfl rfl) rfl ?_;refine e_ (af_ rfl) rfl ?_;refine e_ (af_ rfl) rfl ?_;refine e_ (af_ rfl) rfl ?_;refine aA_ ?_;refine am_ rfl ?_;refine ax_ ?_;refine ax_ ?_;refine ae_ ?_;refine e_ (S_ rfl) rfl ?_;refine E_ (cl_ rfl rfl) rfl fun a7 e=>?_;refine aA_ ?_;refine am_ rfl ?_;cases a7
  ·replace e:=er_ e
   refine co_ rfl ?_;refine df_ ?_;refine am_ rfl ?_;refine ax_ ?_;refine ax_ ?_;refine ae_ ?_;refine e_ (S_ rfl) rfl ?_;refine e_ (ed_ F_ rfl) rfl ?_;refine e_ (S_ rfl) rfl ?_;refine e_ (ed_ F_ rfl) rfl ?_;refine e_ (aI_ rfl rfl rfl (bv_ zaa_ zaa_)) rfl ?_;refine E_ (dd_ rfl rfl) rfl fun a8 B=>?_;refine aA_ ?_;refine am_ rfl ?_;cases a8
   ·replace B:=zdf B
    refine co_ rfl ?_;refine df_ ?_;refine am_ rfl ?_;refine ax_ ?_;refine ak_ ((a3,.cells (Ax.cells x).toArray 30 (0,0))::((a0,.cells #[.slice ad l.length cap] 24 (0,0))::[])) zk ?_;refine D_ 6 [0,1,2,3,6] zk zs ?_;refine T_ rfl (cf_ kU_ rfl rfl rfl ht_) rfl ?_;refine T_ rfl (bd_ 1 np_ rfl rfl rfl) rfl ?_;refine T_ rfl (S_ rfl) rfl ?_;refine T_ rfl (S_ rfl) rfl ?_;refine T_ rfl (S_ rfl) rfl ?_;refine bV_ ?_;refine p_ 4 rfl zk ?_;refine G_ runUnderlying138 kH_ cc_ rfl rfl rfl rfl rfl rfl fun a1=>?_;refine aq_ (List.flatMap PL.cells [(PL.mk p T E),(PL.mk q M C)]) d_ rfl ?_;refine aA_ ?_;refine dm_ rfl ?_;refine Q_ zs ?_;refine p_ 5 rfl zk ?_;refine f_ ((show Tri prog 39 _ [] _ (fun y:{y:Ao×Nat // (p++q).length≤y.2∧y.2≤maxLen∧(y.1=none→y.2=0)}=>.slice y.1.1 (p++q).length y.1.2) (fun _=>[]) (fun y=>[X_ y.1.1 ((p++q).flatMap Pc.cells)]) from by have h:=tS_ [(PL.mk p T E),(PL.mk q M C)] (some ⟨a1,0,none⟩) 2 (fun y W=>by simp only[List.mem_cons,List.not_mem_nil,or_false]at W;rcases W with rfl|rfl;exact⟨L,H,by dsimp only;omega⟩;exact⟨G,K,by dsimp only;omega⟩) zaf_;have eC:(ha_ [(PL.mk p T E),(PL.mk q M C)])=p++q:=(by simp[ha_]);rw[eC]at h;exact h)) rfl g_ (fun v _ h=>by refine⟨h.1,fun y W=>?_,trivial⟩;simp only[List.mem_cons,List.not_mem_nil,or_false]at W;rcases W with rfl|rfl;exact h.2.2.2.1;exact h.2.1) rfl fun⟨⟨X,N⟩,a9,b0,Z⟩=>?_;dsimp only;refine aA_ ?_;refine dm_ rfl ?_;refine Q_ zs ?_;refine p_ 7 rfl zk ?_;refine f_ (wC_ q M C zaa_) rfl g_ zf rfl fun⟨⟨aad,acap⟩,b3,b5⟩=>?_;dsimp only;refine aA_ ?_;refine dm_ rfl ?_;refine Q_ zs ?_;refine p_ 8 rfl zk ?_;refine f_ (zw_ l ad cap (p++q) X N (dC_ q) aad acap (by rw[List.length_append];omega) (by have:=eO_ q;omega) zaa_) rfl g_ zf rfl fun⟨⟨Y,a6,Lq⟩,O,V⟩=>?_;dsimp only;dsimp only at O V ⊢;subst V;refine aA_ ?_;refine dm_ rfl ?_;refine Q_ zs ?_;refine p_ 9 rfl zk ?_;refine A_ (R_ (l_ d_) (R_ (l_ d_) (bg_ bi_))) ?_;refine o_ 0 bH_ rfl rfl rfl rfl rfl (by have q:=(dy_ O).2;simp only[Value.cells,List.all_cons,List.all_nil,q,Bool.and_true]) ?_;refine aA_ ?_;refine dm_ rfl ?_;refine Q_ (fun _ a b=>⟨Vw.sat.sub (a.perm (i_ (c_ d_) (c_ d_))),b.2.2.2⟩) ?_;refine D_ 0 [10] zk (fun _ a b=>⟨Vw.sat.sub (a.perm (i_ (c_ d_) (c_ d_))),b.2.2.2⟩) ?_;refine T_ rfl (af_ rfl) rfl ?_;refine bV_ ?_;refine pA_ zk ?_;refine am_ rfl ?_;refine ge_ ?_;exact cS_ ⟨(Y,a6,(cE_ l (dt_ l (p++q) (dC_ q) l.length)),0),O,⟨p,J,I,.inr (.inr (.inr ⟨by simpa using d,by simpa using e,by omega,rfl,rfl⟩))⟩⟩ (fun U v A m=>bM_ (us:=[Y]) 0 results13 fC_ bH_ rfl rfl rfl rfl U v A m) (c_ (c_ C_)) zt
   replace B:=zdt B;refine bw_ rfl ?_;refine ax_ ?_;refine ae_ ?_;refine e_ (u_ om_ rfl rfl) rfl ?_;refine o_ 0 bH_ rfl rfl rfl rfl rfl rfl ?_;refine e_ (af_ rfl) rfl ?_;refine aA_ ?_;refine am_ rfl ?_;refine ge_ ?_;exact cS_ ⟨(.slice none 0 0,[],[],2),az_.nil _ _,⟨p,J,I,.inr (.inr (.inl ⟨by simpa using d,by simpa using e,by omega,rfl,rfl⟩))⟩⟩ (fun U v A m=>bM_ (us:=[.slice none 0 0]) 0 results13 fC_ bH_ rfl rfl rfl rfl U v A m) g_ zt
  replace e:=eo_ e;refine bw_ rfl ?_;refine ax_ ?_;refine ae_ ?_;refine e_ (u_ om_ rfl rfl) rfl ?_;refine e_ (S_ rfl) rfl ?_;refine o_ 0 bH_ rfl rfl rfl rfl rfl rfl ?_;refine e_ (af_ rfl) rfl ?_;refine aA_ ?_;refine am_ rfl ?_;refine ge_ ?_;exact cS_ ⟨(.slice none 0 0,[],[],P),az_.nil _ _,⟨p,J,I,.inr (.inl ⟨by simpa using d,by simpa using e,rfl,rfl⟩)⟩⟩ (fun U v A m=>bM_ (us:=[.slice none 0 0]) 0 results13 fC_ bH_ rfl rfl rfl rfl U v A m) g_ zt
 replace d:=eo_ d;refine bw_ rfl ?_;refine ax_ ?_;refine ae_ ?_;refine e_ (u_ om_ rfl rfl) rfl ?_;refine e_ (S_ rfl) rfl ?_;refine o_ 0 bH_ rfl rfl rfl rfl rfl rfl ?_;refine e_ (af_ rfl) rfl ?_;refine aA_ ?_;refine am_ rfl ?_;refine ge_ ?_;exact cS_ ⟨(.slice none 0 0,[],[],J),az_.nil _ _,⟨p,J,I,.inl ⟨by simpa using d,rfl,rfl⟩⟩⟩ (fun U v A m=>bM_ (us:=[.slice none 0 0]) 0 results13 fC_ bH_ rfl rfl rfl rfl U v A m) g_ zt
theorem MpR.uniq {l:List Ax} {P Q:List Pc} {e f:Int} (h:MpR l P e) (g:MpR l Q f):P=Q∧e=f:=by
  obtain⟨a,C,h⟩:=h;obtain⟨b,B,g⟩:=g;have q:=C.uniq B;subst q;rcases h with⟨d,y,A⟩|⟨d,y,A⟩<;>rcases g with⟨m,v,x⟩|⟨m,v,x⟩<;>first|exact absurd d m|exact absurd m d|exact⟨A.trans x.symm,y.trans v.symm⟩
theorem OfR.uniq {l X Y:List Ax} {q:List Pc} {G e f:Int} (h:OfR l q G X e) (g:OfR l q G Y f):X=Y∧e=f:=by
  obtain⟨P,a,K,h⟩:=h;obtain⟨Q,b,J,g⟩:=g;obtain⟨H,I⟩:=K.uniq J;subst H I
  rcases h with⟨v,m,x⟩|⟨v,m,x,B⟩|⟨v,m,x,B,E⟩|⟨v,m,x,B,E⟩<;>rcases g with⟨A,d,y⟩|⟨A,d,y,C⟩|⟨A,d,y,C,F⟩|⟨A,d,y,C,F⟩ <;>
    first|exact absurd v A|exact absurd A v|exact absurd m d|exact absurd d m|(exfalso;omega)|exact⟨x.trans y.symm,m.trans d.symm⟩|exact⟨B.trans C.symm,x.trans y.symm⟩|exact⟨E.trans F.symm,B.trans C.symm⟩
theorem Bf_ {x:Ax} (h:x.check=0) (m:pln x):hV_ x=0:=by
 obtain⟨d,y,v⟩:=m;have l:=Con.tdy_self (c:=x.left) zaa_ zaa_;have r:=Con.tdy_self (c:=x.right) zaa_ zaa_;have e:¬ x.swp:=fun q=>by have:=q.1;omega
 refine lA_.2 ⟨?_,?_⟩
 ·unfold Ax.tdyE
  rw[if_neg (fun q=>q h),if_neg (fun q=>q.2 (by rw[l])),if_neg (fun q=>q.2 (by rw[r]))]
 unfold pw_;rw[if_neg e,if_neg e];unfold Ax.tdyL Ax.tdyR;rw[d,if_pos (show (us 1).left=true from rfl),if_pos (show (us 1).right=true from rfl),l,r];exact⟨rfl,rfl⟩
theorem CD_ {l:List Ax} (B:∀ x∈l,x.check=0) (e:∀ x∈l,pln x) (hl:l.length≤1000) (hS:js_ l):BCk l 0:=by
 refine .inr (.inr (.inr (.inr ⟨hK_.2 fun z d=>Bf_ (B z d) (e z d),hS,by omega,fun x m q=>?_,.inl ⟨rfl,?_⟩⟩)))
 ·have h:=q.1
  unfold vN_ at h;rw[(e x m).1]at h;cases h
 rintro ⟨n,f,c,v,C,y,A⟩;have h:=y 0 v;unfold sE do_ at h;obtain⟨x,m,d⟩:=List.mem_flatMap.1 h;rw[Ax.steps_no (by rw[(e x m).1];decide) (by rw[(e x m).1];decide)]at d;cases d
theorem of_pln {l X Y:List Ax} {q:List Pc} {d e:Int} (B:∀ x∈l,x.check=0) (m:∀ x∈l,pln x) (hl:l.length≤1000) (hS:js_ l) (h:OfR l q d Y e) (y:d=0) (v:(aL_ l).2=0)
    (C:Nat.ble ((aL_ l).1.length+q.length) 16384=true) (A:cE_ l (dt_ l ((aL_ l).1++q) (AI_ q) l.length)=X):Y=X∧e=0 :=
  h.uniq ⟨_,0,⟨0,CD_ B m hl hS,.inr ⟨rfl,v.symm,rfl⟩⟩,.inr (.inr (.inr ⟨rfl,y,Nat.le_of_ble_eq_true C,rfl,by rw[AH_];exact A.symm⟩))⟩
abbrev sB (a b:Str):Ax:=(Ax.mk 1 false (Con.mk 3 a 0 0 none 0 []) (Con.mk 3 b 0 0 none 0 []) none 0 [] [] [] [])
theorem zx_ {a b:Ax} (h:Ax.cmp a b=-1):∀ (i:Nat) x y,[a,b][i]? = some x→[a,b][i+1]? = some y→Ax.cmp x y=-1:=by
  intro i x y e d;cases i with
  | zero =>
    simp only[List.getElem?_cons_zero,Nat.zero_add,List.getElem?_cons_succ,Option.some.injEq]at e d;subst e;subst d;exact h
  | succ i=>simp at d
theorem jq_ {S:List Str} (h:(S.all fun s=>Nat.ble s.length 100000)=true):∀ s∈S,s.length≤100000:=fun s d=>Nat.le_of_ble_eq_true (List.all_eq_true.1 h s d)
theorem zf_:Tri prog 6 #[] [] [bN_] (fun _:Unit=>.bool true) (fun _=>[]) (fun _=>[]):=by
  refine j_ func6 rfl rfl ntmps6 rfl fun a3=>?_;refine Zz 7 ?_;refine f_ (dR_ [66]) rfl g_ zt rfl fun _=>G_ ab_ n_ aH_ rfl rfl rfl rfl rfl rfl fun x=>?_;refine aq_ (List.flatMap Con.cells [(Con.mk 3 [66] 0 0 none 0 [])]) d_ rfl ?_;refine e_ (u_ iQ_ rfl rfl) rfl (y_ aH_ rfl fun a6=>o_ 0 n_ rfl rfl rfl rfl rfl rfl (Zz 4 ?_));refine D_ 6 [1] zk zs (Zz 2 ?_);refine p_ 0 rfl zk (f_ (dR_ [65]) rfl g_ zt rfl fun _=>Zz 3 ?_);refine D_ 4 [2] zk zs (T_ rfl (u_ strt30 rfl rfl) rfl (bV_ (p_ 3 rfl zk (f_ (hX_ [66] [67]) rfl g_ zt rfl fun _=>Zz 3 ?_))));refine p_ 4 rfl zk (f_ (hX_ [68] [65]) rfl g_ zt rfl fun _=>Zz 3 ?_);refine p_ 5 rfl zk (G_ aU_ H_ aG_ rfl rfl rfl rfl rfl rfl fun B=>?_);refine aq_ (List.flatMap Ax.cells [(Ax.mk 1 false (Con.mk 3 [65] 0 0 none 0 []) (Con.mk 6 [114] 0 0 (some ⟨x,0,none⟩) 1 [(Con.mk 3 [66] 0 0 none 0 [])]) none 0 [] [] [] []),(sB [66] [67]),(sB [68] [65])]) d_ rfl ?_;refine Zz 3 ?_;refine D_ 0 [6] zk zs (Zz 8 ?_);refine G_ t_ M_ aw_ rfl rfl rfl rfl rfl rfl fun S=>?_;refine aq_ (List.flatMap au_ [[65]]) d_ rfl ?_;refine G_ ap_ P_ bA_ rfl rfl rfl rfl rfl rfl fun U=>?_;refine aq_ (List.flatMap cY_ [0,1]) d_ rfl ?_;refine f_ (eh_ [(Ax.mk 1 false (Con.mk 3 [65] 0 0 none 0 []) (Con.mk 6 [114] 0 0 (some ⟨x,0,none⟩) 1 [(Con.mk 3 [66] 0 0 none 0 [])]) none 0 [] [] [] []),(sB [66] [67]),(sB [68] [65])] (some ⟨B,0,none⟩) 3 ⟨by simp,by decide⟩ (fun m d=>by simp only[List.mem_cons,List.not_mem_nil,or_false]at d;rcases d with rfl|rfl|rfl<;>(constructor<;>simp[Con.ok,Con.ok.oks,sB])) zaf_ [[65]] (some ⟨S,0,none⟩) 1 zaf_ (jq_ zk) _ _ (Prod.eta _).symm (Nat.le_of_ble_eq_true zk) [0,1] (some ⟨U,0,none⟩) 2 zaf_ zk) rfl g_ (fun v _ h=>by exact⟨⟨h.2.2.1,fun y e=>by simp only[List.mem_cons,List.not_mem_nil,or_false]at e;rcases e with rfl|rfl|rfl;exact⟨⟨.inl rfl,trivial⟩,⟨h.2.2.2.1,⟨⟨.inl rfl,trivial⟩,trivial⟩⟩,(.inl rfl)⟩;exact⟨⟨.inl rfl,trivial⟩,⟨.inl rfl,trivial⟩,(.inl rfl)⟩;exact⟨⟨.inl rfl,trivial⟩,⟨.inl rfl,trivial⟩,(.inl rfl)⟩⟩,h.2.2.2.2.1,h.2.1,h.1,trivial⟩) rfl fun _=>?_;refine e_ (aR_ rfl) rfl (Zz 4 ?_);refine G_ t_ M_ aw_ rfl rfl rfl rfl rfl rfl fun W=>?_;refine aq_ (List.flatMap au_ [[66]]) d_ rfl ?_;refine ar_ rfl rfl (G_ ap_ P_ bA_ rfl rfl rfl rfl rfl rfl fun Z=>?_);refine aq_ (List.flatMap cY_ [1]) d_ rfl ?_;refine ar_ rfl rfl (f_ (eh_ [(Ax.mk 1 false (Con.mk 3 [65] 0 0 none 0 []) (Con.mk 6 [114] 0 0 (some ⟨x,0,none⟩) 1 [(Con.mk 3 [66] 0 0 none 0 [])]) none 0 [] [] [] []),(sB [66] [67]),(sB [68] [65])] (some ⟨B,0,none⟩) 3 ⟨by simp,by decide⟩ (fun m d=>by simp only[List.mem_cons,List.not_mem_nil,or_false]at d;rcases d with rfl|rfl|rfl<;>(constructor<;>simp[Con.ok,Con.ok.oks,sB])) zaf_ [[66]] (some ⟨W,0,none⟩) 1 zaf_ (jq_ zk) _ _ (Prod.eta _).symm (Nat.le_of_ble_eq_true zk) [1] (some ⟨Z,0,none⟩) 1 zaf_ zk) rfl g_ (fun v _ h=>by exact⟨⟨h.2.2.2.2.1,fun y e=>by simp only[List.mem_cons,List.not_mem_nil,or_false]at e;rcases e with rfl|rfl|rfl;exact⟨⟨.inl rfl,trivial⟩,⟨h.2.2.2.2.2.1,⟨⟨.inl rfl,trivial⟩,trivial⟩⟩,(.inl rfl)⟩;exact⟨⟨.inl rfl,trivial⟩,⟨.inl rfl,trivial⟩,(.inl rfl)⟩;exact⟨⟨.inl rfl,trivial⟩,⟨.inl rfl,trivial⟩,(.inl rfl)⟩⟩,h.2.2.2.2.2.2.1,h.2.1,h.1,trivial⟩) rfl fun _=>?_);refine ar_ rfl rfl (e_ (aR_ rfl) rfl (Zz 5 ?_));refine G_ t_ M_ aw_ rfl rfl rfl rfl rfl rfl fun a0=>?_;refine aq_ (List.flatMap au_ [[60,115,111,109,101,32,114,32,66,62]]) d_ rfl ?_;refine ar_ rfl rfl (G_ ap_ P_ bA_ rfl rfl rfl rfl rfl rfl fun Q=>?_);refine aq_ (List.flatMap cY_ [0,1]) d_ rfl ?_;refine ar_ rfl rfl (f_ (eh_ [(Ax.mk 1 false (Con.mk 3 [65] 0 0 none 0 []) (Con.mk 6 [114] 0 0 (some ⟨x,0,none⟩) 1 [(Con.mk 3 [66] 0 0 none 0 [])]) none 0 [] [] [] []),(sB [66] [67]),(sB [68] [65])] (some ⟨B,0,none⟩) 3 ⟨by simp,by decide⟩ (fun m d=>by simp only[List.mem_cons,List.not_mem_nil,or_false]at d;rcases d with rfl|rfl|rfl<;>(constructor<;>simp[Con.ok,Con.ok.oks,sB])) zaf_ [[60,115,111,109,101,32,114,32,66,62]] (some ⟨a0,0,none⟩) 1 zaf_ (jq_ zk) _ _ (Prod.eta _).symm (Nat.le_of_ble_eq_true zk) [0,1] (some ⟨Q,0,none⟩) 2 zaf_ zk) rfl g_ (fun v _ h=>by exact⟨⟨h.2.2.2.2.2.2.1,fun y e=>by simp only[List.mem_cons,List.not_mem_nil,or_false]at e;rcases e with rfl|rfl|rfl;exact⟨⟨.inl rfl,trivial⟩,⟨h.2.2.2.2.2.2.2.1,⟨⟨.inl rfl,trivial⟩,trivial⟩⟩,(.inl rfl)⟩;exact⟨⟨.inl rfl,trivial⟩,⟨.inl rfl,trivial⟩,(.inl rfl)⟩;exact⟨⟨.inl rfl,trivial⟩,⟨.inl rfl,trivial⟩,(.inl rfl)⟩⟩,h.2.2.2.2.2.2.2.2.1,h.2.1,h.1,trivial⟩) rfl fun _=>?_);refine ar_ rfl rfl (e_ (aR_ rfl) rfl (Zz 8 ?_));refine e_ (u_ iQ_ rfl rfl) rfl (f_ (dR_ [65]) rfl g_ zt rfl fun _=>e_ (u_ strt30 rfl rfl) rfl (G_ aU_ H_ aG_ rfl rfl rfl rfl rfl rfl fun F=>?_));refine aq_ (List.flatMap Ax.cells [(Ax.mk 1 false (Con.mk 1 [] 0 0 none 0 []) (Con.mk 3 [65] 0 0 none 0 []) none 0 [] [] [] [])]) d_ rfl ?_;refine Zz 5 ?_;refine f_ (dR_ [65]) rfl g_ zt rfl fun _=>f_ (dR_ [66]) rfl g_ zt rfl fun _=>e_ (u_ strt30 rfl rfl) rfl (G_ aU_ H_ aG_ rfl rfl rfl rfl rfl rfl fun A=>?_)
  refine aq_ (List.flatMap Ax.cells [(Ax.mk 3 false (Con.mk 3 [65] 0 0 none 0 []) (Con.mk 3 [66] 0 0 none 0 []) none 0 [] [] [] [])]) d_ rfl ?_;refine Zz 5 ?_;refine e_ (u_ strt30 rfl rfl) rfl (f_ (dR_ [65]) rfl g_ zt rfl fun _=>e_ (u_ strt30 rfl rfl) rfl (f_ (hX_ [65] [66]) rfl g_ zt rfl fun _=>G_ aU_ H_ aG_ rfl rfl rfl rfl rfl rfl fun G=>?_));refine aq_ (List.flatMap Ax.cells [(Ax.mk 7 true (Con.mk 0 [] 0 0 none 0 []) (Con.mk 0 [] 0 0 none 0 []) none 0 [] [114] [] []),(Ax.mk 4 false (Con.mk 0 [] 0 0 none 0 []) (Con.mk 3 [65] 0 0 none 0 []) none 0 [] [114] [] []),(sB [65] [66])]) d_ rfl ?_;refine Zz 7 ?_;refine G_ ap_ P_ bA_ rfl rfl rfl rfl rfl rfl fun H=>?_;refine aq_ (List.flatMap cY_ [0]) d_ rfl ?_;refine f_ (eh_ [(Ax.mk 1 false (Con.mk 1 [] 0 0 none 0 []) (Con.mk 3 [65] 0 0 none 0 []) none 0 [] [] [] [])] (some ⟨F,0,none⟩) 1 ⟨by simp,by decide⟩ (fun m d=>by simp only[List.mem_cons,List.not_mem_nil,or_false]at d;rcases d with rfl<;>(constructor<;>simp[Con.ok,Con.ok.oks])) zaf_ ([]:List Str) none 0 zaf_ (jq_ zk) _ _ (Prod.eta _).symm (Nat.le_of_ble_eq_true zk) [0] (some ⟨H,0,none⟩) 1 zaf_ zk) rfl g_ (fun v _ h=>by exact⟨⟨h.2.2.2.1,fun y e=>by simp only[List.mem_cons,List.not_mem_nil,or_false]at e;rcases e with rfl;exact⟨⟨.inl rfl,trivial⟩,⟨.inl rfl,trivial⟩,(.inl rfl)⟩⟩,h.2.2.2.2.2.2.2.2.2.2.2.2.1,(.inl rfl),h.1,trivial⟩) rfl fun _=>?_;refine e_ (aR_ rfl) rfl (Zz 4 ?_);refine G_ t_ M_ aw_ rfl rfl rfl rfl rfl rfl fun I=>?_;refine aq_ (List.flatMap au_ [[65]]) d_ rfl ?_;refine ar_ rfl rfl (f_ (eh_ [(Ax.mk 3 false (Con.mk 3 [65] 0 0 none 0 []) (Con.mk 3 [66] 0 0 none 0 []) none 0 [] [] [] [])] (some ⟨A,0,none⟩) 1 ⟨by simp,by decide⟩ (fun m d=>by simp only[List.mem_cons,List.not_mem_nil,or_false]at d;rcases d with rfl<;>(constructor<;>simp[Con.ok,Con.ok.oks])) zaf_ [[65]] (some ⟨I,0,none⟩) 1 zaf_ (jq_ zk) _ _ (Prod.eta _).symm (Nat.le_of_ble_eq_true zk) ([]:List Int) none 0 zaf_ zk) rfl g_ (fun v _ h=>by exact⟨⟨h.2.2.2.1,fun y e=>by simp only[List.mem_cons,List.not_mem_nil,or_false]at e;rcases e with rfl;exact⟨⟨.inl rfl,trivial⟩,⟨.inl rfl,trivial⟩,(.inl rfl)⟩⟩,h.2.2.2.2.2.2.2.2.2.2.2.2.2.1,h.1,(.inl rfl),trivial⟩) rfl fun _=>?_);refine ar_ rfl rfl (e_ (aR_ rfl) rfl (Zz 5 ?_));refine G_ t_ M_ aw_ rfl rfl rfl rfl rfl rfl fun E=>?_;refine aq_ (List.flatMap au_ [[65],[66]]) d_ rfl ?_;refine ar_ rfl rfl (G_ ap_ P_ bA_ rfl rfl rfl rfl rfl rfl fun L=>?_);refine aq_ (List.flatMap cY_ [0]) d_ rfl ?_;refine ar_ rfl rfl (f_ (eh_ [(Ax.mk 3 false (Con.mk 3 [65] 0 0 none 0 []) (Con.mk 3 [66] 0 0 none 0 []) none 0 [] [] [] [])] (some ⟨A,0,none⟩) 1 ⟨by simp,by decide⟩ (fun m d=>by simp only[List.mem_cons,List.not_mem_nil,or_false]at d;rcases d with rfl<;>(constructor<;>simp[Con.ok,Con.ok.oks])) zaf_ [[65],[66]] (some ⟨E,0,none⟩) 2 zaf_ (jq_ zk) _ _ (Prod.eta _).symm (Nat.le_of_ble_eq_true zk) [0] (some ⟨L,0,none⟩) 1 zaf_ zk) rfl g_ (fun v _ h=>by exact⟨⟨h.2.2.2.2.2.1,fun y e=>by simp only[List.mem_cons,List.not_mem_nil,or_false]at e;rcases e with rfl;exact⟨⟨.inl rfl,trivial⟩,⟨.inl rfl,trivial⟩,(.inl rfl)⟩⟩,h.2.2.2.2.2.2.2.2.2.2.2.2.2.2.2.1,h.2.1,h.1,trivial⟩) rfl fun _=>?_);refine ar_ rfl rfl (e_ (aR_ rfl) rfl (Zz 5 ?_));refine G_ t_ M_ aw_ rfl rfl rfl rfl rfl rfl fun C=>?_;refine aq_ (List.flatMap au_ [[67]]) d_ rfl ?_;refine ar_ rfl rfl (G_ ap_ P_ bA_ rfl rfl rfl rfl rfl rfl fun J=>?_);refine aq_ (List.flatMap cY_ [0,1,2]) d_ rfl ?_;refine ar_ rfl rfl (f_ (eh_ [(Ax.mk 7 true (Con.mk 0 [] 0 0 none 0 []) (Con.mk 0 [] 0 0 none 0 []) none 0 [] [114] [] []),(Ax.mk 4 false (Con.mk 0 [] 0 0 none 0 []) (Con.mk 3 [65] 0 0 none 0 []) none 0 [] [114] [] []),(sB [65] [66])] (some ⟨G,0,none⟩) 3 ⟨by simp,by decide⟩ (fun m d=>by simp only[List.mem_cons,List.not_mem_nil,or_false]at d;rcases d with rfl|rfl|rfl<;>(constructor<;>simp[Con.ok,Con.ok.oks,sB])) zaf_ [[67]] (some ⟨C,0,none⟩) 1 zaf_ (jq_ zk) _ _ (Prod.eta _).symm (Nat.le_of_ble_eq_true zk) [0,1,2] (some ⟨J,0,none⟩) 3 zaf_ zk) rfl g_ (fun v _ h=>by exact⟨⟨h.2.2.2.2.2.2.1,fun y e=>by simp only[List.mem_cons,List.not_mem_nil,or_false]at e;rcases e with rfl|rfl|rfl;exact⟨⟨.inl rfl,trivial⟩,⟨.inl rfl,trivial⟩,(.inl rfl)⟩;exact⟨⟨.inl rfl,trivial⟩,⟨.inl rfl,trivial⟩,(.inl rfl)⟩;exact⟨⟨.inl rfl,trivial⟩,⟨.inl rfl,trivial⟩,(.inl rfl)⟩⟩,h.2.2.2.2.2.2.2.2.2.2.2.2.2.2.2.2.2.1,h.2.1,h.1,trivial⟩) rfl fun _=>?_);refine ar_ rfl rfl (e_ (aR_ rfl) rfl (Zz 8 ?_));refine f_ (hX_ [65] [66]) rfl g_ zt rfl fun _=>f_ (hX_ [67] [68]) rfl g_ zt rfl fun _=>G_ aU_ H_ aG_ rfl rfl rfl rfl rfl rfl fun K=>?_;refine aq_ (List.flatMap Ax.cells [(sB [65] [66]),(sB [67] [68])]) d_ rfl ?_;refine e_ (u_ om_ rfl rfl) rfl (f_ (hX_ [65] [68]) rfl g_ zt rfl fun _=>?_);refine f_ (BR_ [(sB [65] [66]),(sB [67] [68])] (some ⟨K,0,none⟩) 2 (fun m d=>by simp only[List.mem_cons,List.not_mem_nil,or_false]at d;rcases d with rfl|rfl<;>(constructor<;>simp[Con.ok,Con.ok.oks,sB])) zaf_ (sB [65] [68]) zbn_ (Ax.goalP (sB [65] [68])).1 (Ax.goalP (sB [65] [68])).2.1 (Ax.goalP (sB [65] [68])).2.2 (wj_ zbn_ zk (.inl rfl) rfl) (Nat.le_of_ble_eq_true zk)) rfl g_ (fun v _ h=>by exact⟨⟨h.1,fun y e=>by simp only[List.mem_cons,List.not_mem_nil,or_false]at e;rcases e with rfl|rfl;exact⟨⟨.inl rfl,trivial⟩,⟨.inl rfl,trivial⟩,(.inl rfl)⟩;exact⟨⟨.inl rfl,trivial⟩,⟨.inl rfl,trivial⟩,(.inl rfl)⟩⟩,h.2.2.2.2.2.2.2.2.2.2.2.2.2.2.2.2.2.2.1,⟨⟨.inl rfl,trivial⟩,⟨.inl rfl,trivial⟩,(.inl rfl)⟩,trivial⟩) rfl fun⟨⟨a7,a4,Xo,eo⟩,M,N⟩=>?_;dsimp only;dsimp only at M N;obtain⟨rfl,rfl⟩:=of_pln (X:=[(sB [65] [66])]) (fun m d=>by simp only[List.mem_cons,List.not_mem_nil,or_false]at d;rcases d with rfl|rfl<;>kernel_rfl) (fun m d=>by simp only[List.mem_cons,List.not_mem_nil,or_false]at d;rcases d with rfl|rfl<;>exact⟨rfl,rfl,rfl⟩) zaf_ (zx_ zk) N zk zk zk zk;refine bL_ M w_ fun V a2 P T R Y=>?_;subst P;refine Zz 3 ?_;refine y_ ke_ rfl fun a1=>o_ 0 bH_ rfl rfl rfl rfl rfl rfl (Zz 5 ?_)
  refine G_ t_ M_ aw_ rfl rfl rfl rfl rfl rfl fun O=>?_;refine aq_ (List.flatMap au_ [[60]]) d_ rfl ?_;refine f_ (wJ_ ([]:List Ax) none 0 ⟨by simp,by decide⟩ (fun m d=>by cases d) zaf_ [[60]] (some ⟨O,0,none⟩) 1 zaf_ (jq_ zk) [] 0 zk zaf_ [] 1 zk) rfl g_ (fun v _ h=>by exact⟨⟨.inl rfl,by simp⟩,h.2.2.2.2.2.2.2.2.2.2.2.2.2.2.2.2.2.2.2.2.1,h.1,trivial⟩) rfl fun⟨⟨rad,rcap⟩,a5⟩=>?_;dsimp only;refine Zz 9 ?_;refine D_ 8 [0,1,2,3,4,5,6,7,8,9,10,11,12] zk zs (Zz 1 ?_);refine T_ rfl (ao_ (aT_ rfl rfl) (show _=Value.bool true from congrArg Value.bool zad_)) rfl (Zz 4 ?_);refine hZ_ rfl rfl rfl (ao_ (aT_ rfl rfl) (show _=Value.bool true from congrArg Value.bool zad_)) rfl (Zz 4 ?_);refine hZ_ rfl rfl rfl (U_ aU_ H_ rfl rfl (fun v _ h=>aK_ (n:=16) Ax.cells_len zad_ (by exact h.2.2.1) (show [(sB [65] [66])][0]? = some _ from rfl)) zaa_ zah_) rfl ?_;refine hZ_ rfl rfl rfl (al_ (ad:=V) (us:=Ax.cells (sB [65] [66])) bq_ H_ rfl zf (Ax.cells_len _) (z_ Ax.cells_len (show [(sB [65] [66])][0]? = some _ from rfl))) rfl (bV_ (p_ 13 rfl zk (ar_ rfl rfl (f_ (hX_ [65] [66]) rfl g_ zt rfl fun _=>Zz 3 ?_))));refine p_ 14 rfl zk (ar_ rfl rfl (f_ (wY_ (sB [65] [66]) zbn_ (Nat.le_of_ble_eq_true zk) (Nat.le_of_ble_eq_true zk) ⟨⟨rfl,rfl⟩,⟨rfl,rfl⟩,rfl,rfl,rfl,rfl⟩) rfl g_ (fun v _ h=>by exact⟨⟨⟨.inl rfl,trivial⟩,⟨.inl rfl,trivial⟩,(.inl rfl)⟩,trivial⟩) rfl fun _=>Zz 3 ?_));refine D_ 0 [15,16,17,18,19,20] zk zs (Zz 3 ?_);refine hZ_ rfl rfl rfl (ao_ (aT_ rfl rfl) (show _=Value.bool true from congrArg Value.bool zad_)) rfl (Zz 6 ?_);exact aa_ results6 () rfl (.refl _) zt
end Go.Proofs.YthmjeabeoodghaaGreatDoor
namespace Go.Sx
open Go Go.Vs
theorem oQ_ {α β:Type} (f:α→β):∀ (l:List α) (i:Nat),(l.eraseIdx i).map f=(l.map f).eraseIdx i
  | [],_=>rfl
  | _::_,0=>rfl
  | x::l,i+1=>by simp only[List.eraseIdx_cons_succ,List.map_cons];rw[oQ_ f l i]
structure StM where
  es:Array MapEntry
  c:Nat
  ks:List Str
  hE:SetE str es ks
  hB:Born es c
def StM.add (s:StM) (k:Str):StM:=if h:k∈s.ks then s else ⟨s.es.push ⟨str k,.bool true,s.c⟩,s.c+1,s.ks++[k],s.hE.push h s.c,s.hB.push _ _⟩
theorem StM.mem {s:StM} {k n:Str}:n∈(s.add k).ks↔n∈s.ks∨n=k:=by
 unfold StM.add
 split
 ·rename_i h
  exact⟨.inl,fun q=>q.elim id fun e=>e▸h⟩
 simp
theorem StM.len {s:StM} {k:Str}:(s.add k).ks.length≤s.ks.length+1:=by
  unfold StM.add
  split<;>simp
section
variable {P:Program} {N:Nat} {v0:Vw} {H0:Hp} {R:Exit→Act→World→Prop} {Kk:List Kt} {fr:Fr} {H:Hp} {Γ:List Fct}
variable {ops:Array Oper} {lo:List Oper} {d:Nat} {ty:TypeId} {ps:String} {af:Array Edge}
theorem gx_ {t h F:TypeId} {x y:Operand} {b c i:Nat} {es:Array MapEntry} {e u:Value} (B:∀ w,(underlying t).run P w=.ok (.map h F) w) (C:Fr.ev fr x=some (.map (some b))) (G:Fr.ev fr y=some e) (n:Nat)
    (hi:H[n]? = some (b,.map es c)) (I:hM_ P h e) (A:da_ P h e es.toList (some (i,u))):Yld P N fr H Γ (.lookup t x y true) ty (.tuple #[u,.bool true]) :=
  fun a v m J K _ _ _=>by
    have E:=MapKept.run_getObj_map (P:=P) (J.own _ (List.mem_of_getElem? hi)).1;simp[execOp,m.ev C,m.ev G,Instr.lookup,B,E,I _ _,A _]
theorem ui_ {t h m:TypeId} {x y:Operand} {b c:Nat} {es:Array MapEntry} {e z:Value} (C:∀ w,(underlying t).run P w=.ok (.map h m) w) (K:∀ w,(zeroValue m).run P w=.ok z w) (E:Fr.ev fr x=some (.map (some b))) (G:Fr.ev fr y=some e) (n:Nat)
    (hi:H[n]? = some (b,.map es c)) (I:hM_ P h e) (B:da_ P h e es.toList none):Yld P N fr H Γ (.lookup t x y true) ty (.tuple #[z,.bool false]) :=
  fun a v A J L _ _ _=>by
    have F:=MapKept.run_getObj_map (P:=P) (J.own _ (List.mem_of_getElem? hi)).1;simp[execOp,A.ev E,A.ev G,Instr.lookup,C,F,I _ _,B _,K]
theorem ie_ {Fc:Fence} {K:Nat} {D:List Deferred} {o:Op} {t V X:TypeId} {x y z:Operand} {b:Nat} (hF:Opn Fc) (n:Nat) (s:StM) {k:Str} (C:KeyT P V str) (E:o=.insert t x y z∨o=.mapUpdate t x y z) (L:∀ w,(underlying t).run P w=.ok (.map V X) w)
    (U:Fr.ev fr x=some (.map (some b))) (W:Fr.ev fr y=some (str k)) (O:Fr.ev fr z=some (.bool true)) (hi:H[n]? = some (b,.map s.es s.c))
    (I:fi_ Fc K P R N D v0 H0 ops lo Kk fr (H.set n (b,.map (s.add k).es (s.add k).c)) Γ):fi_ Fc K P R N D v0 H0 ops (⟨none,o,ty,ps,af,none⟩::lo) Kk fr H Γ :=
  eg_ (by rfl) fun a v m J h3 Z=>by
    refine⟨fun f _=>hF.fn f,?_⟩;rw[semAt_eq (by rcases E with rfl|rfl<;>rfl)];have G:=(J.own _ (List.mem_of_getElem? hi)).1;have M:=MapKept.run_getObj_map (P:=P) G;have B:=MapKept.run_setObj_map (P:=P) (.map (s.add k).es (s.add k).c) G
    have he:(execOp (Act.eval ⟨a.tmps,[]⟩) ⟨none,o,ty,ps,af,none⟩).run P v.w=.ok .skip { v.w with heap:=v.w.heap.setIfInBounds b (.map (s.add k).es (s.add k).c) }:=by
      by_cases h:k∈s.ks
      · have F:s.add k=s:=by unfold StM.add;rw[dif_pos h]
        rw[F]at B ⊢;obtain⟨i,e,Q,A,T,g4,Y⟩:=s.hE.yes C h;have em:=hd_ A T g4;rcases E with rfl|rfl<;>simp[execOp,m.sat.ev U,m.sat.ev W,m.sat.ev O,Instr.mapUpdate,L,M,C.ok _ _ _,Y _,B,Instr.keyThatStays,A,T,C.same,em]
      · have F:s.add k=⟨s.es.push ⟨str k,.bool true,s.c⟩,s.c+1,s.ks++[k],s.hE.push h s.c,s.hB.push _ _⟩:=by unfold StM.add;rw[dif_neg h]
        rw[F]at B ⊢;dsimp only at B ⊢;have hf:=s.hE.no C h;rcases E with rfl|rfl<;>simp[execOp,m.sat.ev U,m.sat.ev W,m.sat.ev O,Instr.mapUpdate,L,M,C.ok _ _ _,hf _,B]
    rw[show a.eval=Act.eval ⟨a.tmps,[]⟩ from rfl,he];have S:=MapKept.heap_set (o':=.map (s.add k).es (s.add k).c) G;obtain⟨Q,A⟩:=eY_ (w':={ v.w with heap:=v.w.heap.setIfInBounds b (.map (s.add k).es (s.add k).c) }) J hi rfl rfl rfl (Nat.le_refl _) zaf_ S.1 (fun k h=>S.2 k h);exact I _ _ m Q (h3.trans A) (aD_ (A.le J) Z)
theorem tc_ {N:Nf} {t L et:TypeId} {x y:Operand} {b:Nat} {C:Option Nat} (n:Nat) {es:Array MapEntry} {c:Nat} {ks:List Str} {k:Str} (J:KeyT P L str) (Y:∀ w,(underlying t).run P w=.ok (.map L et) w)
    (B:Fr.ev fr x=some (.map (some b))) (hy:Fr.ev fr y=some (str k)) (hi:H[n]? = some (b,.map es c)) (hE:SetE str es ks) (hB:Born es c) (hd:C=none)
    (V:∀ h,SetE str h (ks.filter fun q=>decide (q≠k))→Born h c→Ops P R N v0 H0 ops lo Kk fr (H.set n (b,.map h c)) Γ):Ops P R N v0 H0 ops (⟨C,.call ⟨.builtin .delete,#[x,y],#[t,L]⟩,ty,ps,af,none⟩::lo) Kk fr H Γ :=
  cR_ rfl fun a v F W h3 h4=>by
    subst hd;have K:=(W.own _ (List.mem_of_getElem? hi)).1;have Z:=MapKept.run_getObj_map (P:=P) K
    obtain⟨h,X,T,O⟩:∃ h,(execOp a.eval ⟨none,.call ⟨.builtin .delete,#[x,y],#[t,L]⟩,ty,ps,af,none⟩).run P v.w=.ok (.value (.tuple #[])) { v.w with heap:=v.w.heap.setIfInBounds b (.map h c) }∧SetE str h (ks.filter fun q=>decide (q≠k))∧Born h c:=by
      by_cases E:k∈ks
      · obtain⟨i,e,I,G,g3,g4,g5⟩:=hE.yes J E
        have M:i<es.size:=by
          have:=(Array.getElem?_eq_some_iff.1 G).1;exact this
        have m:(es.eraseIdxIfInBounds i).toList=es.toList.eraseIdx i:=by
          unfold Array.eraseIdxIfInBounds;rw[dif_pos M];simp
        have Q:=MapKept.run_setObj_map (P:=P) (.map (es.eraseIdxIfInBounds i) c) K
        have A:ks.eraseIdx i=ks.filter fun q=>decide (q≠k):=by
          have h9:ks.erase k=ks.filter (fun q=>q != k):=hE.nd.erase_eq_filter k
          have h8:ks.erase k=ks.eraseIdx i:=by
            have U:=(List.getElem?_eq_some_iff.1 I).1;rw[List.erase_eq_eraseIdx_of_idxOf (i:=i)];have e1:=(List.getElem?_eq_some_iff.1 I).2;rw[← e1];exact hE.nd.idxOf_getElem i U
          rw[← h8,h9]
          congr 1
          funext q
          by_cases S:q=k<;>simp[S]
        refine⟨es.eraseIdxIfInBounds i,?_,⟨?_,fun x B=>?_,?_⟩,⟨fun x B=>?_,?_⟩⟩
        · simp[execOp,resolve,invoke,builtin,F.ev B,F.ev hy,Builtin.delete_,Y,Z,J.ok _ _ _,g5 _,Q,Result.andThen]
        · rw[m,← A,oQ_,oQ_,hE.keys]
        · rw[m]at B;exact hE.vals x ((List.eraseIdx_sublist _ _).subset B)
        · exact hE.nd.filter _
        · rw[m]at B;exact hB.lt x ((List.eraseIdx_sublist _ _).subset B)
        · rw[m];exact hB.nd.sublist ((List.eraseIdx_sublist _ _).map _)
      · have Q:=MapKept.run_setObj_map (P:=P) (.map es c) K
        have hf:=hE.no J E
        have A:(ks.filter fun q=>decide (q≠k))=ks:=List.filter_eq_self.2 fun q S=>by
          have:q≠k:=fun e=>E (e▸S)
          simpa using this
        refine⟨es,?_,by rw[A];exact hE,hB⟩;simp[execOp,resolve,invoke,builtin,F.ev B,F.ev hy,Builtin.delete_,Y,Z,J.ok _ _ _,hf _,Q,Result.andThen]
    unfold Oper.wp;rw[X];have hh:=MapKept.heap_set (o':=.map h c) K;obtain⟨I,G⟩:=eY_ (w':={ v.w with heap:=v.w.heap.setIfInBounds b (.map h c) }) W hi rfl rfl rfl (Nat.le_refl _) zaf_ hh.1 (fun k E=>hh.2 k E);exact V h T O a _ F I (h3.trans G) (aD_ (G.le W) h4)
end
end Go.Sx
namespace Go.Vs
open Go Go.Sx
def Con.nds:Con→List Con
  | .mk k nm lo hi ad cap ps=>.mk k nm lo hi ad cap ps::ndsL ps
where ndsL:List Con→List Con
  | []=>[]
  | p::ps=>nds p++ndsL ps
theorem wc_:∀ ps:List Con,Con.nds.ndsL ps=ps.flatMap Con.nds
  | []=>rfl
  | p::ps=>by rw[Con.nds.ndsL,wc_ ps,List.flatMap_cons]
theorem Con.nds_eq (c:Con):c.nds=c::c.parts.flatMap Con.nds:=by cases c;rw[Con.nds,wc_];rfl
theorem wb_:∀ (n:Nat) (c:Con),c.sz≤n→c.nds.length≤c.sz
  | 0,c,h=>by have:=c.sz_pos;omega
  | n+1,c,h=>by
    have e:∀ ps:List Con,(∀ p∈ps,p.nds.length≤p.sz)→(ps.flatMap Con.nds).length≤Con.sz.szs ps:=by
      intro ps
      induction ps with
      | nil=>intro _;simp[Con.sz.szs]
      | cons p ps ih =>
        intro d;rw[List.flatMap_cons,List.length_append,Con.sz.szs];have v:=d p zaf_;have x:=ih fun q m=>d q (by simp[m])
        omega
    rw[Con.nds_eq,List.length_cons,Con.sz_eq];have:=e c.parts fun p d=>wb_ n p zbo_
    omega
def Con.nms (k:Int) (c:Con):List Str:=(c.nds.filter fun x=>decide (x.kind=k)).map Con.name
theorem Con.nms_eq (k:Int) (c:Con):c.nms k=(if c.kind=k then [c.name] else [])++c.parts.flatMap (Con.nms k):=by
 unfold Con.nms;rw[Con.nds_eq,List.filter_cons]
 have d:∀ ps:List Con,((ps.flatMap Con.nds).filter fun x=>decide (x.kind=k)).map Con.name=ps.flatMap fun c=>(c.nds.filter fun x=>decide (x.kind=k)).map Con.name:=by
   intro ps
   induction ps with
   | nil=>rfl
   | cons p ps ih=>rw[List.flatMap_cons,List.filter_append,List.map_append,ih,List.flatMap_cons]
 by_cases h:c.kind=k
 ·rw[if_pos zaB_,if_pos h,List.map_cons,d];rfl
 rw[if_neg zaB_,if_neg h,d];rfl
theorem Con.nms_len (k:Int) (c:Con):(c.nms k).length≤c.sz:=by
  unfold Con.nms;rw[List.length_map];exact Nat.le_trans (List.length_filter_le _ _) (wb_ _ c (Nat.le_refl _))
theorem lN_:∀ (n:Nat) (c:Con),c.sz≤n→c.check=0→∀ x∈c.nds,x.check=0
 | 0,c,h,_=>by have:=c.sz_pos;omega
 | n+1,c,h,hc=>by
   intro x d;rw[Con.nds_eq,List.mem_cons,List.mem_flatMap]at d;rcases d with rfl|⟨p,e,d⟩
   · exact hc
   · exact lN_ n p (by have:=Con.sz_part e;omega) (Con.check_part hc e) x d
structure W2I (l:List Str) (s:Str) (i:Nat) (R:List Str) (dn:Bool):Prop where
  no:dn=false→R=l.take i∧∀ x∈l.take i,x<s
  yes:dn=true→R++l.drop i=dw_ l s
theorem tk1 {α:Type} {l:List α} {i:Nat} {x:α} (h:l[i]? = some x):l.take (i+1)=l.take i++[x]:=by rw[List.take_add_one,h];rfl
theorem wp_ {α:Type} {l:List α} {i:Nat} {x:α} (h:l[i]? = some x):l.drop i=x::l.drop (i+1):=by
  obtain⟨hi,rfl⟩:=List.getElem?_eq_some_iff.1 h;exact List.drop_eq_getElem_cons hi
theorem W2I.t {l:List Str} {s x:Str} {i:Nat} {R:List Str} (h:W2I l s i R true) (d:l[i]? = some x):W2I l s (i+1) (R++[x]) true :=
  ⟨fun q=>(by cases q),fun _=>by have:=h.yes rfl;rw[wp_ d]at this;rw[List.append_assoc];exact this⟩
theorem W2I.lt {l:List Str} {s x:Str} {i:Nat} {R:List Str} (h:W2I l s i R false) (hl:SrS l) (C:s≠[]) (d:l[i]? = some x) (e:s<x):W2I l s (i+1) ((R++[s])++[x]) true:=by
 obtain⟨E,A⟩:=h.no rfl;refine⟨fun q=>(by cases q),fun _=>?_⟩;have hi:=(List.getElem?_eq_some_iff.1 d).1
 have F:kS l s=i:=CQ_ zaa_ A fun z B=>by
   rw[d,Option.some.injEq]at B;subst B;exact fun q=>List.lt_irrefl _ (List.lt_trans q e)
 have G:s ∉ l:=fun y=>by
   have m:s∈l.take i∨s∈l.drop i:=by rw[← List.mem_append,List.take_append_drop];exact y
   rcases m with q|q
   · exact List.lt_irrefl _ (A s q)
   · rw[wp_ d]at q
     rcases List.mem_cons.1 q with rfl|q
     · exact List.lt_irrefl _ e
     · have v:SrS (l.drop i):=hl.sublist (List.drop_sublist _ _)
       rw[wp_ d]at v;exact List.lt_irrefl _ (List.lt_trans ((List.pairwise_cons.1 v).1 s q) e)
 rw[wN_ C G,F,E,wp_ d];simp
theorem tD_ {σ τ:Type} (f:Con→σ→σ):∀ (n:Nat) (c:Con),c.sz≤n→∀ s:σ,Con.fold (fun x s=>(.inl (f x s):σ ⊕ τ)) c s=.inl (c.nds.foldl (fun s x=>f x s) s)
  | 0,c,h=>by have:=c.sz_pos;omega
  | n+1,c,h=>fun s=>by
    rw[Con.fold_eq,Con.nds_eq,List.foldl_cons];dsimp only
    have e:∀ (ps:List Con),(∀ p∈ps,p.sz≤n)→∀ s:σ,Con.fold.folds (fun x s=>(.inl (f x s):σ ⊕ τ)) ps s=.inl ((ps.flatMap Con.nds).foldl (fun s x=>f x s) s):=by
      intro ps
      induction ps with
      | nil=>intro _ s;rfl
      | cons p ps ih =>
        intro d s;rw[Con.fold.folds,tD_ f n p (d p zaf_) s];dsimp only;rw[ih (fun q m=>d q (by simp[m])),List.flatMap_cons,List.foldl_append]
    exact e c.parts (fun p d=>by have:=Con.sz_part d;omega) _
end Go.Vs
namespace Go.Sx
open Go
section
variable {P:Program} {v0:Vw} {H0:Hp} {R:Exit→Act→World→Prop} {K:List Kt} {fr:Fr} {H:Hp} {Γ:List Fct}
def mks (Ds:List Nat):List Deferred:=Ds.map fun D=>{ target:=.collected D,args:=#[] }
def mkH (Ds:List Nat):Hp:=Ds.map fun D=>(D,.deferred (some []))
def AS_ {ι:Type} (N:ι→Nf) (v0:Vw) (H0:Hp) (frs:ι→Fr) (Hs:ι→Hp) (Γs:ι→List Fct) (μ:ι→Nat) (n:Nat) (a:Act) (w:World):Prop :=
  ∃ j v,v.w=w∧Fr.sat (N j) (frs j) a∧v.sat (Hs j)∧v0.to H0 v (Hs j)∧ad_ (Γs j) v∧μ j<n
theorem lE_ {ι:Type} {c:Code} {C:Nf} (N:ι→Nf) (d:ι→Fr) (Hs:ι→Hp) (y:ι→List Fct) (μ:ι→Nat) (x:ι) {F:Hp} (B:Fr.le (d x) fr) (Y:H.Perm (Hs x++F)) (O:∀ v,v.sat H→ad_ Γ v→ad_ (y x) v)
    (h:∀ i,Run P R (N i) v0 H0 c (.inv (AS_ N v0 H0 d Hs y μ (μ i))::K) (d i) (Hs i) (y i)) (S:C=N x:=by rfl):Run P R C v0 H0 (.loop c) K fr H Γ:=by
  subst S;refine bt_ _ B (dk_ Y O ?_);intro a v T U V L;refine wp_loop_ghost (fun n a w=>∃ i v,v.w=w∧Fr.sat (N i) (d i) a∧v.sat (Hs i)∧v0.to H0 v (Hs i)∧ad_ (y i) v∧μ i=n) (μ x) ⟨x,v,rfl,T,U,V,L,rfl⟩ ?_;rintro n a w ⟨i,v,rfl,M,I,Q,X,rfl⟩;refine wp_mono (h i a v M I Q X) fun e a' w' m=>?_;cases e with
  | normal =>
    obtain⟨j,J,E,k1,k2,W,G,A⟩:=m;exact⟨μ j,A,j,J,E,k1,k2,W,G,rfl⟩
  | exit id=>exact m
  | goto l=>exact m
  | ret=>exact m
  | panic ch=>exact m
  | outgrown=>exact m
theorem jF_ {ι:Type} {m:Nf} {N:ι→Nf} {d:ι→Fr} {Hs:ι→Hp} {h:ι→List Fct} {μ:ι→Nat} {n:Nat} (j:ι) {F:Hp} (A:μ j<n) (e:Fr.le (d j) fr) (I:H.Perm (Hs j++F))
    (x:∀ v,v.sat H→ad_ Γ v→ad_ (h j) v) (y:m=N j:=by rfl):Ok m v0 H0 (AS_ N v0 H0 d Hs h μ n) fr H Γ:=by
  subst y;exact bt_ (d j) e (dk_ I x fun _ v B C E G=>⟨j,v,rfl,B,C,E,G,A⟩)
variable {N:Nat} {Ds:List Nat}
theorem retMs {fn:Func} {ι:Type} {G:Hp} {ret:ι→Value} {H':ι→Hp} {Γ':ι→List Fct} (x:ι) (S:∀ (a:Act) (v:Vw),Fr.sat (⟨N,mks Ds⟩:Nf) fr a→v.sat G→ad_ Γ v→(results fn a.tmps).run P v.w=.ok (ret x) v.w) (J:H.Perm (mkH Ds++G))
    (O:∃ E,G.Perm (H' x++E)) (Q:∀ v,v.sat G→ad_ Γ v→ad_ (Γ' x) v):Ok ⟨N,mks Ds⟩ v0 H0 (bodyPostM Fence.wide 0 P fn (lx_ v0 H0 ret H' Γ') .ret) fr H Γ:=by
  intro a v F U V M;show LeavesInM Fence.wide 0 P fn a.tmps _ a.defers .returning v.w
  rw[F.defers];obtain⟨E,h⟩:=O
  have C:∀ (e:List Nat) (d:Vw),d.sat (mkH e++G)→v0.to H0 d (mkH e++G)→ad_ Γ d→LeavesInM Fence.wide 0 P fn a.tmps (lx_ v0 H0 ret H' Γ') (mks e) .returning d.w:=by
    intro e
    induction e with
    | nil =>
      intro d k1 k2 A
      exact⟨ret x,S a d F k1 A,x,d,rfl,rfl,(Vw.sat.perm k1 h).sub,Q d k1 A,k2.subR fun b y=>by
        have:b∈(H' x++E).map Prod.fst:=by rw[List.map_append];exact List.mem_append_left _ y
        exact (h.map Prod.fst).mem_iff.2 this⟩
    | cons D e ih =>
      intro d k1 k2 A;have hl:=(k1.own (D,.deferred (some [])) List.mem_cons_self).1;have m:d.sat ((D,.deferred (some []))::(mkH e++G)):=k1;obtain⟨B,I⟩:=eZ_ (o':=.deferred none) m;have L:(⟨d.im,d.w.putObj D (.deferred none),d.sl⟩:Vw).sat (mkH e++G):=⟨fun p T=>B.own p (List.mem_cons_of_mem _ T),by have:=B.nodup;rw[List.map_cons,List.nodup_cons]at this;exact this.2,B.lt⟩;exact⟨by simp,.inl ⟨D,_,rfl,run_takeDeferred hl,ih ⟨d.im,_,d.sl⟩ L ((k2.trans I).subR fun b y=>List.mem_cons_of_mem _ y) (aD_ (I.le m) A)⟩⟩
  exact C Ds v (U.perm J) (V.subR fun b y=>(J.map Prod.fst).mem_iff.2 y) M
theorem ux_ {σ α:Type} {g:Operand} {V:Nat} {assign body:Code} {J:FuncId} {caps:List Value} {Hj:σ→Hp} {Hc:Hp} {Γx:α→List Fct} {Γi:List Fct} {xv:α→Value} {good:α→Prop} {stp:α→σ→σ ⊕ Empty}
    (Z:σ) (res:σ ⊕ Empty) (hg:Fr.ev fr g=some (.func (.func J) #[] caps.toArray)) (hH:H.Perm (Hc++Hj Z)) (U:∀ v,v.sat H→ad_ Γ v→ad_ Γi v)
    (A:∀ l D (d:Loop),d.params=#[V]→d.state=.ready→d.pending=none→Fr.sat N fr ⟨d.tmps,[]⟩→d.assign=assign→d.body=body→∀ s x,good x →
      jr_ P l (xv x) (Hj s++HLp l D d) (Γx x) (fun _:Unit=>.bool (stp x s).isLeft) (fun _=>pb_ (fun s'=>Hj s'++HLp l D d) (fun _=>HLp l D { d with state:=.done,pending:=some .ret }) (stp x s)) (fun _=>[]))
    (hit:∀ l (Gj:σ→Hp) (Gx:Empty→Hp),(∀ s x,good x→jr_ P l (xv x) (Gj s) (Γx x) (fun _:Unit=>.bool (stp x s).isLeft) (fun _=>pb_ Gj Gx (stp x s)) (fun _=>[])) →
      Tri P J (.func (.yield l) #[] #[]::caps).toArray (Hc++Gj Z) Γi (fun _:Unit=>.tuple #[]) (fun _=>Hc++pb_ Gj Gx res) (fun _=>[]))
    (C:∀ s',res=.inl s'→∀ D l r,Fin P R ⟨N,mks (D::Ds)⟩ v0 H0 K fr (Hc++Hj s'++HLp l D r) Γ) :
    Run P R ⟨N,mks Ds⟩ v0 H0 (.rangeFunc g #[V] assign body) K fr H Γ:=by
  intro a v E L h3 h4;refine wpIn_wide (n:=0) |>.1 (wpIn_mono (Q:=et_ Fence.wide 0 P R K) (wpIn_rangeFunc fun fn _=>?_) fun e a w hq=>bx_ K e a w hq)
  obtain⟨a1,a2⟩:=gd_ (w':=v.w.alloc (.deferred (some []))) (o:=.deferred (some [])) L rfl rfl rfl rfl (Nat.le_refl _);obtain⟨d,m⟩:∃ d:Loop,d={ state:=.ready,pending:=none,fn,tmps:=a.tmps,params:=#[V],assign,body,defers:=v.w.heap.size }:=⟨_,rfl⟩;obtain⟨b1,b2⟩:=gd_ (w':=(v.w.alloc (.deferred (some []))).alloc (.loop d)) (o:=.loop d) a1 rfl rfl rfl rfl (Nat.le_refl _);have G:(v.w.alloc (Obj.deferred (some []))).heap.size=v.w.heap.size+1:=by simp
  have O:(⟨v.im,(v.w.alloc (.deferred (some []))).alloc (.loop d),v.sl⟩:Vw).sat ((v.w.heap.size+1,.loop d)::(v.w.heap.size,.deferred (some []))::H):=G▸b1;have F:v.to H ⟨v.im,(v.w.alloc (.deferred (some []))).alloc (.loop d),v.sl⟩ ((v.w.heap.size+1,.loop d)::(v.w.heap.size,.deferred (some []))::H):=a2.trans (G▸b2)
  have y:((v.w.heap.size+1,Obj.loop d)::(v.w.heap.size,.deferred (some []))::H).Perm (Hc++(Hj Z++HLp (v.w.heap.size+1) v.w.heap.size d)):=by
    rw[← List.append_assoc];exact (List.perm_append_comm (l₁:=HLp (v.w.heap.size+1) v.w.heap.size d) (l₂:=H)).trans (hH.append_right _)
  have hT:=hit (v.w.heap.size+1) (fun s=>Hj s++HLp (v.w.heap.size+1) v.w.heap.size d) (fun _=>HLp (v.w.heap.size+1) v.w.heap.size { d with state:=.done,pending:=some .ret })
    (A _ _ d zbQ_ zbQ_ zbQ_ (by rw[m];exact⟨E.size,rfl,E.val⟩) zbQ_ zbQ_)
  have W:=aD_ (F.le L) (U v L h4);have he:=E.ev hg;refine⟨v.w.heap.size+1,pH_ v.w.heap.size,(v.w.alloc (.deferred (some []))).alloc (.loop d),⟨.fn (.func J) caps.toArray,#[.func (.yield (v.w.heap.size+1)) #[] #[]]⟩,(v.w.alloc (.deferred (some []))).alloc (.loop d),J,(.func (.yield (v.w.heap.size+1)) #[] #[]::caps).toArray,_,?_,?_,fun _ _=>trivial,?_,fun h=>(by cases h),callsIn_wide.2 ((hT.run ⟨v.im,_,v.sl⟩ (O.perm y) W).mono ?_)⟩
  · rw[m];exact run_enterLoop_outer _ _ _ _ _
  · simp only[resolve,rangeCall,List.map_toArray,List.map_cons,List.map_nil,he,Deferred.ofValue]
    rfl
  · have:=hT.callable (.func (.yield (v.w.heap.size+1)) #[] #[]::caps).toArray ((v.w.alloc (.deferred (some []))).alloc (.loop d))
    simpa [invoke] using this
  · rintro e w' ⟨_,v',rfl,rfl,g1,g2,g3⟩
    have I:=F.trans (g3.permL y.symm);have M:=aD_ (I.le L) h4;have T:∀ D,Fr.sat ⟨N,mks (D::Ds)⟩ fr { a with defers:=pH_ D++a.defers }:=fun D=>⟨E.size,by show pH_ D++a.defers=_;rw[E.defers];rfl,E.val⟩
    have B:∀ (X Y:Hp) r,(Y++(X++HLp (v.w.heap.size+1) v.w.heap.size r)).Perm ((v.w.heap.size+1,.loop r)::(Y++X++[(v.w.heap.size,.deferred (some []))])):=fun X Y r=>by
      unfold HLp;rw[← List.append_assoc];exact List.perm_middle
    cases res with
    | inl s' =>
      have q:=g1.perm (B (Hj s') Hc d);have hl:=(q.own _ List.mem_cons_self).1;obtain⟨z1,z2⟩:=eZ_ (o':=.loop { d with state:=.exhausted }) q
      have zp:((v.w.heap.size+1,Obj.loop { d with state:=.exhausted })::(Hc++Hj s'++[(v.w.heap.size,.deferred (some []))])).Perm (Hc++Hj s'++HLp (v.w.heap.size+1) v.w.heap.size { d with state:=.exhausted }):=by
        have:=(B (Hj s') Hc { d with state:=.exhausted }).symm;rw[← List.append_assoc]at this;exact this
      refine⟨d.pending,_,run_endLoop hl (by rw[m];simp),?_⟩;have S:d.pending=none:=by rw[m]
      split
      case h_2=>rename_i c hc;rw[S]at hc;cases hc
      exact bW_ K .normal _ _ (C s' rfl _ _ _ _ ⟨v'.im,_,v'.sl⟩ (T _) (z1.perm zp) (h3.trans (I.trans ((z2.permL (B _ _ _).symm).subR fun b hb=>(zp.map Prod.fst).mem_iff.2 hb))) (aD_ (z2.le q) M))
    | inr t=>exact nomatch t
end
end Go.Sx
namespace Go.Vs
open Go Go.Sx
def Ax.vc (k:Int) (x:Ax):List Str:=x.left.nms k++x.right.nms k++(if k=6 then x.roles++[x.role] else [])++(if k=4 then [x.a,x.b] else [])
def vcL (k:Int) (l:List Ax):List Str:=l.flatMap (Ax.vc k)
theorem yE_ {k:Int} {l:List Ax} {i:Nat} {x:Ax} (h:l[i]? = some x):vcL k (l.take (i+1))=vcL k (l.take i)++x.vc k:=by
  unfold vcL;rw[List.take_add_one,h,List.flatMap_append];simp
def StM.nil:StM:=⟨#[],0,[],SetE.nil,Born.nil 0⟩
structure VI (s:StM) (D:List Str):Prop where
  mem:∀ n,n∈s.ks↔n∈D
  len:s.ks.length≤D.length
theorem VI.add {s:StM} {D:List Str} (h:VI s D) (k:Str):VI (s.add k) (D++[k]) :=
  ⟨fun n=>by rw[StM.mem,h.mem];simp,by have:=StM.len (s:=s) (k:=k);have:=h.len;rw[List.length_append];simp;omega⟩
theorem VI.cg {s:StM} {D E:List Str} (h:VI s D) (e:D=E):VI s E:=e▸h
abbrev S4:=StM×StM×StM×StM
def eA_ (x:Con) (s:S4):S4:=if x.kind=3 then (s.1.add x.name,s.2) else if x.kind=6 then (s.1,s.2.1.add x.name,s.2.2) else if x.kind=7 then (s.1,s.2.1,s.2.2.1.add x.name,s.2.2.2) else if x.kind=4 then (s.1,s.2.1,s.2.2.1,s.2.2.2.add x.name) else s
structure V4 (s:S4) (D:Int→List Str):Prop where
  c:VI s.1 (D 3)
  r:VI s.2.1 (D 6)
  f:VI s.2.2.1 (D 7)
  i:VI s.2.2.2 (D 4)
theorem V4.nil:V4 (StM.nil,StM.nil,StM.nil,StM.nil) (fun _=>[]):=⟨⟨fun n=>by simp[StM.nil],by simp[StM.nil]⟩,⟨fun n=>by simp[StM.nil],by simp[StM.nil]⟩,⟨fun n=>by simp[StM.nil],by simp[StM.nil]⟩,⟨fun n=>by simp[StM.nil],by simp[StM.nil]⟩⟩
theorem V4.cg {s:S4} {D E:Int→List Str} (h:V4 s D) (e:∀ k,D k=E k):V4 s E:=⟨h.c.cg (e 3),h.r.cg (e 6),h.f.cg (e 7),h.i.cg (e 4)⟩
theorem V4.put {s:S4} {D:Int→List Str} (h:V4 s D) (x:Con):V4 (eA_ x s) (fun k=>D k++if x.kind=k then [x.name] else []):=by
 unfold eA_
 split
 ·rename_i q;exact⟨(h.c.add _).cg (by rw[if_pos q]),h.r.cg (by rw[if_neg zaa_];simp),h.f.cg (by rw[if_neg zaa_];simp),h.i.cg (by rw[if_neg zaa_];simp)⟩
 split
 ·rename_i q;exact⟨h.c.cg (by rw[if_neg zaa_];simp),(h.r.add _).cg (by rw[if_pos q]),h.f.cg (by rw[if_neg zaa_];simp),h.i.cg (by rw[if_neg zaa_];simp)⟩
 split
 ·rename_i q;exact⟨h.c.cg (by rw[if_neg zaa_];simp),h.r.cg (by rw[if_neg zaa_];simp),(h.f.add _).cg (by rw[if_pos q]),h.i.cg (by rw[if_neg zaa_];simp)⟩
 split
 ·rename_i q;exact⟨h.c.cg (by rw[if_neg zaa_];simp),h.r.cg (by rw[if_neg zaa_];simp),h.f.cg (by rw[if_neg zaa_];simp),(h.i.add _).cg (by rw[if_pos q])⟩
 rename_i e v d m;exact⟨h.c.cg (by rw[if_neg e];simp),h.r.cg (by rw[if_neg v];simp),h.f.cg (by rw[if_neg d];simp),h.i.cg (by rw[if_neg m];simp)⟩
theorem V4.fold:∀ (L:List Con) {s:S4} {D:Int→List Str},V4 s D→V4 (L.foldl (fun s x=>eA_ x s) s) (fun k=>D k++(L.filter fun x=>decide (x.kind=k)).map Con.name)
  | [],s,D,h=>h.cg fun k=>by simp
  | x::L,s,D,h=>(V4.fold L (h.put x)).cg fun k=>by
    rw[List.filter_cons,List.append_assoc]
    by_cases q:x.kind=k<;>simp[q]
theorem V4.side {s:S4} {D:Int→List Str} {C:List Con} {j:Nat} {c:Con} (h:V4 s fun k=>D k++(C.take j).flatMap (Con.nms k)) (d:C[j]? = some c):V4 (c.nds.foldl (fun s x=>eA_ x s) s) (fun k=>D k++(C.take (j+1)).flatMap (Con.nms k)) :=
  (V4.fold c.nds h).cg fun k=>by
    rw[tk1 d,List.flatMap_append,List.append_assoc];simp[Con.nms]
def S4.addR (s:S4) (n:Str):S4:=(s.1,s.2.1.add n,s.2.2)
def S4.addI (s:S4) (n:Str):S4:=(s.1,s.2.1,s.2.2.1,s.2.2.2.add n)
theorem V4.addR {s:S4} {D:Int→List Str} (h:V4 s D) (n:Str):V4 (s.addR n) (fun k=>D k++if k=6 then [n] else []) :=
  ⟨h.c.cg zaf_,(h.r.add n).cg zaf_,h.f.cg zaf_,h.i.cg zaf_⟩
theorem V4.addI {s:S4} {D:Int→List Str} (h:V4 s D) (n:Str):V4 (s.addI n) (fun k=>D k++if k=4 then [n] else []) :=
  ⟨h.c.cg zaf_,h.r.cg zaf_,h.f.cg zaf_,(h.i.add n).cg zaf_⟩
theorem V4.role {s:S4} {D:Int→List Str} {L:List Str} {j:Nat} {n:Str} (h:V4 s fun k=>D k++if k=6 then L.take j else []) (d:L[j]? = some n):V4 (s.addR n) (fun k=>D k++if k=6 then L.take (j+1) else []) :=
  (h.addR n).cg fun k=>by by_cases q:k=6<;>simp[q,tk1 d]
theorem V4.axm {s:S4} {l:List Ax} {i:Nat} {x:Ax} (h:V4 s fun k=>(vcL k (l.take i)++[x.left,x.right].flatMap (Con.nms k))++if k=6 then x.roles else []) (e:l[i]? = some x):V4 (((s.addR x.role).addI x.a).addI x.b) (fun k=>vcL k (l.take (i+1))) :=
 (((h.addR x.role).addI x.a).addI x.b).cg fun k=>by
   rw[yE_ e];unfold Ax.vc
   by_cases q:k=6
   · subst q;simp
   · by_cases d:k=4
     · subst d;simp
     · simp[q,d]
theorem vc_len {x:Ax} {k:Int} (d:x.left.sz≤1000000) (e:x.right.sz≤1000000) (h:x.roles.length≤1000000):(x.vc k).length≤4000000:=by
  unfold Ax.vc;have:=Con.nms_len k x.left;have:=Con.nms_len k x.right;rw[List.length_append,List.length_append,List.length_append]
  split<;>split<;>simp<;>omega
theorem kM_ {k:Int}:∀ {l:List Ax},(∀ x∈l,x.left.sz≤1000000∧x.right.sz≤1000000∧x.roles.length≤1000000)→(vcL k l).length≤4000000*l.length
  | [],_=>by simp[vcL]
  | x::l,h=>by
    have e:=kM_ (k:=k) (l:=l) fun y d=>h y zaT_
    obtain⟨a,b,c⟩:=h x zaf_;have m:=vc_len (k:=k) a b c;unfold vcL at e ⊢;rw[List.flatMap_cons,List.length_append,List.length_cons];omega
theorem sD_ {l:List Str} (hl:l.Nodup):SrS (bJ_ l):=by
 have e:=kT_ l;have d:(bJ_ l).Nodup:=(List.mergeSort_perm _ _).nodup_iff.2 hl;unfold List.Nodup at d;refine List.Pairwise.imp (fun {a b} hab=>?_) (e.and d)
 by_cases g:a<b
 ·exact g
 exact absurd (List.le_antisymm hab.1 (List.not_lt.1 g)) hab.2
def jP_ (k:Int) (l:List Ax) (Y:List Str):Prop:=SrS Y∧∀ n,n∈Y↔n∈vcL k l∧(k=6∨k=4→n≠[])
theorem jP_.of {k:Int} {l:List Ax} {s:StM} (h:VI s (vcL k l)) (d:k≠6∧k≠4):jP_ k l (bJ_ s.ks) :=
  ⟨sD_ s.hE.nd,fun n=>by rw[List.mem_mergeSort,h.mem];exact⟨fun q=>⟨q,fun r=>by rcases r with r|r;exact absurd r d.1;exact absurd r d.2⟩,fun q=>q.1⟩⟩
theorem jP_.ofD {k:Int} {l:List Ax} {s:StM} (h:VI s (vcL k l)) (d:k=6∨k=4):jP_ k l (bJ_ (s.ks.filter fun q=>decide (q≠[]))) :=
  ⟨sD_ (s.hE.nd.filter _),fun n=>by rw[List.mem_mergeSort,List.mem_filter,h.mem];exact⟨fun q=>⟨q.1,fun _=>by simpa using q.2⟩,fun q=>⟨q.1,by simpa using q.2 d⟩⟩⟩
end Go.Vs
