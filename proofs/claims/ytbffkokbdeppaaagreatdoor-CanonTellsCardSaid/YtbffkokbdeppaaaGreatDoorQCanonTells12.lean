/-
  Lemmas for the law CanonTells (no condition).
-/
import Derived.Test.YtbffkokbdeppaaaGreatDoorQCanonTells11
set_option linter.unusedVariables false
set_option linter.unusedSimpArgs false
set_option linter.unusedSectionVars false
set_option maxHeartbeats 1000000
namespace Go.Proofs.YtbffkokbdeppaaaGreatDoor
open Go Go.Sx Go.Proofs Tryz
attribute [local irreducible] Code.wp wpList wpAnyH
open Go.Vs
theorem kF_ {a b:Str} (h:str a=str b):a=b:=by
  have d:=yae_ (λz:ByteArray=>z.data.toList) (Value.string.inj h);simpa using d
def tB_ (P:Program) (gf:FuncId) (caps:List Value) (Hc:Hp) (Rc:List Str->Prop):Prop:=∀ {σ:Type} (l:Nat) (Gj:σ->Hp) (lst:σ->List Str),(∀ s x,(lst s).length<100000000->jJ_ P l (str x) (Gj s) [] (λ_:{s':σ // lst s'=lst s++[x]}=>.bool true) (λs'=>Gj s'.1) (λ_=>[]))->∀ s0,lst s0=[]->
  Tri P gf (.func (.yield l) #[] #[]::caps).toArray (Hc++Gj s0) [] (λ_:{s':σ // Rc (lst s')}=>.tuple #[]) (λs'=>Hc++Gj s'.1) (λ_=>[])
theorem AY_ {C Q:Hp} {c d e:Nat×Obj}:(C++(c::Q)++[d,e]).Perm (e::(C++(c::(Q++[d])))):=by
  have h:C++(c::Q)++[d,e]=(C++(c::(Q++[d])))++[e]:=by simp
  rw[h];exact yaB_
theorem pf_D10 {C Q:Hp} {c d:Nat×Obj}:(C++(c::(Q++[d]))).Perm ((C++Q)++[c,d]):=by
  have e:(C++Q)++[c,d]=C++((Q++[c])++[d]):=by simp
  rw[e];exact ybJ_ C (ycH_ [d] (show ([c]++Q).Perm _ from yaB_))
theorem wd_ {L q:List Str} (h:L.Perm q) (m:q.Nodup):bb_ L=bb_ q:=by
 have strict:∀ l:List Str,l.Nodup->SrS (bb_ l):=λl hl=>by
   have e:=gf_ l;have d:(bb_ l).Nodup:=(ycE_ _ _).nodup_iff.2 hl;unfold List.Nodup at d;refine ydc_ (fun {a b} hab=>?_) (e.and d)
   by_cases g:a<b
   . exact g
   . exact absurd (ycw_ hab.1 (ycc_.1 g)) hab.2
 exact nj_ (strict L (h.nodup_iff.2 m)) (strict q m) λx=>by rw[ybc_,ybc_,h.mem_iff]
theorem yS_ {σ:Type} {l:Nat} {I:σ->Hp} {h:σ->List Str} (T:∀ s x,(h s).length<100000000->jJ_ prog l (str x) (I s) [] (λ_:{A:σ // h A=h s++[x]}=>.bool true) (λA=>I A.1) (λ_=>[])) (O:σ) (N:h O=[]) (C G c:Nat) (es:Array MapEntry) (q:List Str) (hE:KeyE str es q) (hB:Born es c) (X:q.length<=100000000):Tri prog 193 #[.func (.yield l) #[] #[],zp_ G 0] ((G,.cells #[.map (some C)] 151 (0,0))::(C,.map es c)::I O) [] (λ_:{A:σ // (h A).Perm q}=>.tuple #[]) (λA=>(G,.cells #[.map (some C)] 151 (0,0))::(C,.map es c)::I A.1) (λ_=>[]):=by
 refine i_ func193 rfl rfl ntmps193 rfl λU=>?_;refine Zz 3 ?_;refine pS_ 1 underlying151 rfl rfl rfl λK=>Zz 3 ?_
 refine H_ (ι:={y:List Str×Array Nat×Nat×σ // ItS str es y.2.1 y.1/\c<=y.2.2.1/\h y.2.2.2=y.1/\(∀ z∈y.1,z∈q)}) (λy=>[(0,.func (.yield l) #[] #[]),(1,zp_ G 0),(5,zp_ K 0)]) (λy=>((K,.mapIter (some C) c y.1.2.1 y.1.2.2.1)::((G,.cells #[.map (some C)] 151 (0,0))::((C,.map es c)::(I y.1.2.2.2))))) (λy=>[]) (λy=>q.length - y.1.1.length) ⟨([],#[],c,O),ItS.nil,yaj_ _,N,by simp⟩ zl zp zt ?_;rintro ⟨⟨done,F,V,s⟩,P,J,E,v⟩;dsimp only at P J E v ⊢;refine Zz 2 ?_;refine sA_ 0 2 rfl rfl rfl hB.lt J rfl (λR=>?_) (λe W=>?_)
 .refine Zz 7 ?_
  exact co_ results193 ⟨s,by rw[E];exact P.endK (λ_ _=>kF_) hE R⟩ rfl zp zt
 obtain⟨k,H,S,Q,M,B⟩:=P.stepK (λ_ _=>kF_) hE hB W;refine Zz 10 ?_;refine e_ (ao_ (pz_ 0 2 rfl rfl rfl M hB) (show _=Value.tuple #[str k,e.val] by rw[Q])) rfl (Zz 5 ?_);refine kH_ (ι:={A:σ // h A=h s++[k]}) (λ_=>[(0,.func (.yield l) #[] #[]),(1,zp_ G 0),(5,zp_ K 0),(13,.bool false)]) (λz=>((K,.mapIter (some C) c (F.push e.born) c)::((G,.cells #[.map (some C)] 151 (0,0))::((C,.map es c)::(I z.1))))) (λ_=>[]) ?_ ?_
 .refine aK_ ?_
  refine U_ cE_ (ar_ rfl) rfl rfl ?_;refine U_ cE_ (ar_ rfl) rfl rfl ?_;refine hH_ (T s k zaF_) rfl rfl (c_ (c_ B_)) zt rfl λz=>?_;refine U_ cE_ (as_ rfl) rfl rfl ?_;refine br_ ?_;refine cN_ rfl ?_;exact eE_ z zl zp zh
 rintro ⟨A,L⟩;dsimp only;refine Zz 4 ?_;exact u_ ⟨(done++[k],F.push e.born,c,A),B,yaj_ _,by rw[L,E],λz d=>by rcases yah_.1 d with d|d;exact v z d;rw[yai_]at d;exact d▸H⟩ zaC_ zl (l_ d_ (l_ d_ (l_ d_ T_))) zt
theorem jr_ (h e c:Nat) (es:Array MapEntry) (q:List Str) (hE:KeyE str es q) (hB:Born es c) (m:q.length<=100000000):tB_ prog 193 [zp_ e 0] [(e,.cells #[.map (some h)] 151 (0,0)),(h,.map es c)] (λL=>L.Perm q) :=
  λl A x y v d=>yS_ y v d h e c es q hE hB m
theorem jq_ (e:Nat):Tri prog 108 #[.map (some e)] [] [] (λd:Nat=>.func (.func 193) #[] #[zp_ d 0]) (λd=>[(d,.cells #[.map (some e)] 151 (0,0))]) (λ_=>[]):=by
  refine i_ func108 rfl rfl ntmps108 rfl λm=>?_;refine Zz 2 ?_;refine P_ rfl rfl λh=>Zz 5 ?_
  refine e_ (aY_ rfl rfl) rfl (Zz 4 ?_);exact ab_ results108 h rfl (F:=[]) (.refl _) zt
theorem yR_ {σ:Type} {l:Nat} {I:σ->Hp} {h:σ->List Str} (T:∀ s x,(h s).length<100000000->jJ_ prog l (str x) (I s) [] (λ_:{A:σ // h A=h s++[x]}=>.bool true) (λA=>I A.1) (λ_=>[])) (O:σ) (N:h O=[]) (C G c:Nat) (es:Array MapEntry) (q:List Str) (hE:KeyE str es q) (hB:Born es c) (X:q.length<=100000000):Tri prog 284 #[.func (.yield l) #[] #[],zp_ G 0] ((G,.cells #[.map (some C)] 186 (0,0))::(C,.map es c)::I O) [] (λ_:{A:σ // (h A).Perm q}=>.tuple #[]) (λA=>(G,.cells #[.map (some C)] 186 (0,0))::(C,.map es c)::I A.1) (λ_=>[]):=by
 refine i_ func284 rfl rfl ntmps284 rfl λU=>?_;refine Zz 3 ?_;refine pS_ 1 underlying186 rfl rfl rfl λK=>Zz 3 ?_
 refine H_ (ι:={y:List Str×Array Nat×Nat×σ // ItS str es y.2.1 y.1/\c<=y.2.2.1/\h y.2.2.2=y.1/\(∀ z∈y.1,z∈q)}) (λy=>[(0,.func (.yield l) #[] #[]),(1,zp_ G 0),(5,zp_ K 0)]) (λy=>((K,.mapIter (some C) c y.1.2.1 y.1.2.2.1)::((G,.cells #[.map (some C)] 186 (0,0))::((C,.map es c)::(I y.1.2.2.2))))) (λy=>[]) (λy=>q.length - y.1.1.length) ⟨([],#[],c,O),ItS.nil,yaj_ _,N,by simp⟩ zl zp zt ?_;rintro ⟨⟨done,F,V,s⟩,P,J,E,v⟩;dsimp only at P J E v ⊢;refine Zz 2 ?_;refine sA_ 0 2 rfl rfl rfl hB.lt J rfl (λR=>?_) (λe W=>?_)
 .refine Zz 7 ?_
  exact co_ results284 ⟨s,by rw[E];exact P.endK (λ_ _=>kF_) hE R⟩ rfl zp zt
 obtain⟨k,H,S,Q,M,B⟩:=P.stepK (λ_ _=>kF_) hE hB W;refine Zz 10 ?_;refine e_ (ao_ (pz_ 0 2 rfl rfl rfl M hB) (show _=Value.tuple #[str k,e.val] by rw[Q])) rfl (Zz 5 ?_);refine kH_ (ι:={A:σ // h A=h s++[k]}) (λ_=>[(0,.func (.yield l) #[] #[]),(1,zp_ G 0),(5,zp_ K 0),(13,.bool false)]) (λz=>((K,.mapIter (some C) c (F.push e.born) c)::((G,.cells #[.map (some C)] 186 (0,0))::((C,.map es c)::(I z.1))))) (λ_=>[]) ?_ ?_
 .refine aK_ ?_
  refine U_ cE_ (ar_ rfl) rfl rfl ?_;refine U_ cE_ (ar_ rfl) rfl rfl ?_;refine hH_ (T s k zaF_) rfl rfl (c_ (c_ B_)) zt rfl λz=>?_;refine U_ cE_ (as_ rfl) rfl rfl ?_;refine br_ ?_;refine cN_ rfl ?_;exact eE_ z zl zp zh
 rintro ⟨A,L⟩;dsimp only;refine Zz 4 ?_;exact u_ ⟨(done++[k],F.push e.born,c,A),B,yaj_ _,by rw[L,E],λz d=>by rcases yah_.1 d with d|d;exact v z d;rw[yai_]at d;exact d▸H⟩ zaC_ zl (l_ d_ (l_ d_ (l_ d_ T_))) zt
theorem Bo_ (h e c:Nat) (es:Array MapEntry) (q:List Str) (hE:KeyE str es q) (hB:Born es c) (m:q.length<=100000000):tB_ prog 284 [zp_ e 0] [(e,.cells #[.map (some h)] 186 (0,0)),(h,.map es c)] (λL=>L.Perm q) :=
  λl A x y v d=>yR_ y v d h e c es q hE hB m
theorem Bj_ (e:Nat):Tri prog 210 #[.map (some e)] [] [] (λd:Nat=>.func (.func 284) #[] #[zp_ d 0]) (λd=>[(d,.cells #[.map (some e)] 186 (0,0))]) (λ_=>[]):=by
  refine i_ func210 rfl rfl ntmps210 rfl λm=>?_;refine Zz 2 ?_;refine P_ rfl rfl λh=>Zz 5 ?_
  refine e_ (aY_ rfl rfl) rfl (Zz 4 ?_);exact ab_ results210 h rfl (F:=[]) (.refl _) zt
theorem yz_ {C Q G:Hp} {c:Nat×Obj}:(C++(c::Q)++G).Perm (c::(C++(Q++G))):=by
  have d:C++(c::Q)++G=C++([c]++(Q++G)):=by simp
  rw[d,<-yar_];exact ycH_ (Q++G) (yaB_ (l₁:=C) (l₂:=[c])) |>.trans zaj_
theorem xo_ (R:FuncId) (caps:List Value) (Hc:Hp) (Rc:List Str->Prop) (Q:tB_ prog R caps Hc Rc):Tri prog 274 #[.slice none 0 0,.func (.func R) #[] caps.toArray] Hc [] (λy:{y:Value×Hp×List Str // at_ 9 1 y.1 y.2.2.length (y.2.2.flatMap al_) y.2.1/\Rc y.2.2}=>y.1.1) (λy=>Hc++y.1.2.1) (λ_=>[]):=by
 refine fN_ func274 rfl rfl ntmps274 rfl λE=>?_;refine Zz 2 ?_;refine P_ rfl rfl λd=>Zz 10 ?_
 refine bx_ [(2,zp_ d 0),(6,.func (.func R) #[] caps.toArray)] zl ?_;refine tT_ (σ:={y:Value×Hp×List Str // at_ 9 1 y.1 y.2.2.length (y.2.2.flatMap al_) y.2.1}) (α:=Str) (xv:=λx=>str x) (good:=λs _=>s.1.2.2.length<100000000) (nx:=λx s M=>M.1.2.2=s.1.2.2++[x]) (Rc:=λs=>Rc s.1.2.2) (Γi:=[]) (Hj:=λy=>(d,.cells #[y.1.1] 25 (0,0))::y.1.2.1) (Hc:=Hc) (caps:=caps) ⟨(.slice none 0 0,[],[]),at_.nil _ _⟩ rfl (@List.perm_append_comm _ [_] _) zt ?_ ?_ ?_
 .rintro l D rec U O N X I A ⟨⟨sv,m,L⟩,B⟩ x H
  dsimp only at B H ⊢;refine rN_ (ι:=Unit) (Hj:=λy:{y:Value×Hp×List Str // at_ 9 1 y.1 y.2.2.length (y.2.2.flatMap al_) y.2.1}=>(d,.cells #[y.1.1] 25 (0,0))::y.1.2.1) (s:=⟨(sv,m,L),B⟩) (ok:=λM=>M.1.2.2=L++[x]) (Γ:=[]) (λ_=>[(2,zp_ d 0),(5,str x)]) (λ_=>(d,.cells #[sv] 25 (0,0))::m) U O N X rfl ?_ ?_
  .intro n E P S
   rw[I];dsimp only;refine gP_.2 (A_ (H':=(d,.cells #[sv] 25 (0,0))::(m++S)) zaj_ (gP_.1 ?_));refine aK_ ?_;refine U_ (N_ _) (aI_ rfl) rfl rfl ?_;refine br_ ?_;refine cN_ rfl ?_;exact eE_ () zl (F:=[]) zaN_ zh
  intro n E P S _;rw[A];refine gP_.2 (A_ (H':=(d,.cells #[sv] 25 (0,0))::(m++S)) zaj_ (gP_.1 ?_));refine dW_ ?_;refine aK_ ?_;refine U_ (N_ _) (aX_ 0 na_ rfl rfl rfl) rfl rfl ?_;refine U_ (N_ _) (ar_ rfl) rfl rfl ?_;refine wB_ (N_ _) o_ G_ ax_ rfl rfl rfl rfl rfl rfl λW=>?_;refine sF_ (N_ _) (news:=List.flatMap al_ [x]) cH_ B rfl rfl zp rfl (aL_ 0 rfl) (λu hu=>az_ cm_ hu) zaq_ zaa_ rfl λC J K=>?_;have q:=zsa K;refine gk_ (Y_ (j_ d_) (bc_ (j_ d_))) ?_;refine pl_ (N_ _) 1 q bP_ rfl rfl rfl rfl ?_;refine br_ ?_;refine cN_ rfl ?_;exact tV_ ⟨(C,J,(L++[x])),q⟩ rfl (pf_as3 (l_ (c_ d_) (F_ (c_ z_) (F_ B_ d_))))
 .intro l Y Z
  exact Q l Y (λy=>y.1.2.2) (λs x h=>Z s x h) ⟨(.slice none 0 0,[],[]),at_.nil _ _⟩ rfl
 rintro ⟨⟨sv,m,L⟩,B⟩ V D l r;dsimp only at V B ⊢;refine cL_ (H':=(d,.cells #[sv] 25 (0,0))::(Hc++(m++HLp l D r))) (F:=[]) (by rw[yaw_];exact yz_) zh ?_;refine cc_ rfl ?_;refine cK_ ?_;refine aK_ ?_;refine U_ cE_ (aX_ 0 na_ rfl rfl rfl) rfl rfl ?_;refine U_ cE_ (aI_ rfl) rfl rfl ?_;refine br_ ?_;refine cc_ rfl ?_;refine kI_ ?_;exact yq_ (G:=Hc++((d,.cells #[sv] 25 (0,0))::(m++[(l,.loop r)]))) ⟨(sv,m,L),B,V⟩ (λa v T a0=>by have e:=T.val 4 sv rfl;simp[results,results274,e]) (yz_.symm.trans (by unfold HLp;exact AY_)) ⟨_,pf_D10⟩ rfl
theorem uD_ (v:FuncId) (caps:List Value) (Hc:Hp) (Rc:List Str->Prop) (x:tB_ prog v caps Hc Rc):Tri prog 192 #[.func (.func v) #[] caps.toArray] Hc [] (λy:{y:Value×Hp×List Str // at_ 9 1 y.1 y.2.2.length (y.2.2.flatMap al_) y.2.1/\Rc y.2.2}=>y.1.1) (λy=>Hc++y.1.2.1) (λ_=>[]):=by
  refine i_ func192 rfl rfl ntmps192 rfl λA=>?_;refine Zz 8 ?_;refine f_ (xo_ v caps Hc Rc x) rfl T_ zt rfl λ⟨⟨m,h,q⟩,e,d⟩=>?_;dsimp only;dsimp only at e d ⊢;simp only[yar_,yaw_];refine Zz 4 ?_;exact ab_ results192 ⟨(m,h,q),e,d⟩ rfl zp zt
theorem fe_ (J:FuncId) (caps:List Value) (Hc:Hp) (q:List Str) (I:q.Nodup) (O:q.length<=100000000) (K:tB_ prog J caps Hc (λL=>L.Perm q)):Tri prog 107 #[.func (.func J) #[] caps.toArray] Hc [] (λy:{y:Ao×Nat // (bb_ q).length<=y.2/\y.2<=maxLen/\(y.1=none->y.2=0)}=>.slice y.1.1 (bb_ q).length y.1.2) (λ_=>Hc) (λy=>[ac_ y.1.1 ((bb_ q).flatMap al_)]):=by
  refine i_ func107 rfl rfl ntmps107 rfl λN=>?_;refine Zz 8 ?_;refine f_ (uD_ J caps Hc (λL=>L.Perm q) K) rfl T_ zt rfl λ⟨⟨C,M,A⟩,v,d⟩=>?_;dsimp only;dsimp only at v d ⊢;simp only[yar_,yaw_];refine Zz 6 ?_;refine f_ (nk_ v (by have:=d.length_eq;omega)) rfl aU_ zt rfl λ⟨G,F⟩=>?_;dsimp only;have H:at_ 9 1 C (bb_ q).length (List.flatMap al_ (bb_ q)) G:=by rw[<-wd_ d I,show (bb_ A).length=A.length from yaR_ _];exact F
  refine Zz 9 ?_;refine aW_ H z_ λB E x e m h=>?_;exact ab_ results107 ⟨(B,E),e,m,h⟩ (fs_ rfl x) T_ zf
theorem xO_:gp_ prog 99 [(0,16)] [iv_ 0,.bool false,iv_ 0,str [],iv_ 0,iv_ 0,.slice none 0 0,iv_ 0,str [],iv_ 0,iv_ 0,.slice none 0 0,.slice none 0 0,str [],str [],str []]:=⟨_,zeroValue99,runUnderlying99,λw=>by simp[L_]⟩
theorem qw_ {x:Ax} (d:x.ok) (e:x.check=0):Tri prog 53 #[x.val] [] [x.memF,bN_] (λ_:Unit=>iv_ 0) (λ_=>[]) (λ_=>[]):=by
  have h:=eS_ x d;rw[e]at h;exact h
theorem vS_ (x y:Ax) (v:x.ok) (d:y.ok) (h:x.left.sz<=1000000) (m:x.right.sz<=1000000) (q:y.left.sz<=1000000) (e:y.right.sz<=1000000):Tri prog 65 #[.agg #[iv_ x.kind,.bool x.opn,iv_ x.left.kind,str x.left.name,iv_ x.left.lo,iv_ x.left.hi,.slice x.left.ad x.left.parts.length x.left.cap,iv_ x.right.kind,str x.right.name,iv_ x.right.lo,iv_ x.right.hi,.slice x.right.ad x.right.parts.length x.right.cap,.slice x.ad x.roles.length x.cap,str x.role,str x.a,str x.b],Ax.val y] [] [Ax.memF x,Ax.memF y] (λ_:Unit=>.bool (Ax.cmp x y==0)) (λ_=>[]) (λ_=>[]):=by
  refine i_ func65 rfl rfl ntmps65 rfl λF=>?_;refine Zz 2 ?_;refine P_ rfl rfl λB=>P_ rfl rfl λE=>Zz 8 ?_
  refine f_ (rB_ x y v d h m q e) rfl g_ zf rfl λ_=>E_ (bz_ rfl rfl) rfl λC A=>Zz 4 ?_
  exact ab_ results65 () (s_ rfl (by rw[<-A])) g_ zt
theorem BF_ (x y:Ax) (B:x.ok) (e:y.ok) (m:x.left.sz<=1000000) (v:x.right.sz<=1000000) (A:y.left.sz<=1000000) (h:y.right.sz<=1000000):Tri prog 57 #[.agg #[iv_ x.kind,.bool x.opn,iv_ x.left.kind,str x.left.name,iv_ x.left.lo,iv_ x.left.hi,.slice x.left.ad x.left.parts.length x.left.cap,iv_ x.right.kind,str x.right.name,iv_ x.right.lo,iv_ x.right.hi,.slice x.right.ad x.right.parts.length x.right.cap,.slice x.ad x.roles.length x.cap,str x.role,str x.a,str x.b],Ax.val y] [] [Ax.memF x,Ax.memF y] (λ_:Unit=>.bool ((x.opn==y.opn)&&(Ax.cmp x y==0))) (λ_=>[]) (λ_=>[]):=by
 refine i_ func57 rfl rfl ntmps57 rfl λE=>?_;refine Zz 2 ?_;refine P_ rfl rfl λG=>P_ rfl rfl λH=>Zz 10 ?_
 refine E_ (kz_ gq_ rfl rfl) rfl λC d=>Zz 1 ?_
 cases C
 .refine Zz 8 ?_
  exact ab_ results57 () (s_ rfl zaS_) g_ zt
 refine Zz 5 ?_;refine S_ (vS_ x y B e m v A h) rfl g_ zf rfl λF q=>Zz 5 ?_
 exact ab_ results57 () (s_ rfl (by rw[<-q];simp[d])) g_ zt
def yk_ (x:Ax):Bool:=(x.kind==5)||(x.kind==6)||(x.kind==7)
theorem iw_ {G:Prop} (h:G:=by
 exact ab_ results59 () (s_ rfl (by unfold yk_;simp_all)) g_ zt):G:=h
theorem uL_ (x:Ax):Fn0 prog 59 #[Ax.val x] (.bool (yk_ x)):=by
 refine i_ func59 rfl rfl ntmps59 rfl λm=>?_;refine Zz 2 ?_;refine P_ rfl rfl λq=>Zi 7 (λd=>?_) λd=>?_
 .refine Zi 6 (λe=>?_) λe=>?_
  .refine Zz 7 ?_
   refine E_ (bz_ rfl rfl) rfl λv h=>Zz 5 ?_
   exact iw_
  refine Zz 10 ?_;exact iw_
 refine Zz 14 ?_;exact iw_
structure PL where
  l:List Pc
  ad:Ao
  cap:Nat
def PL.cells (x:PL):List Value:=[.slice x.ad x.l.length x.cap]
theorem PL.cells_len (x:PL):x.cells.length=1:=rfl
structure PL.ok (x:PL):Prop where
  le:x.l.length<=x.cap
  nz:x.ad=none->x.cap=0
  sh:x.l.length<=100000
def plF (xs:List PL):Fct where
  p v:=∀ x∈xs,bG_ v x.ad (x.l.flatMap Pc.cells)
  mono:=λv v' h hp x hx=>(ac_ x.ad (x.l.flatMap Pc.cells)).mono v v' h (hp x hx)
def ia_ (xs:List PL):List Pc:=List.flatMap PL.l xs
theorem uc_ {xs:List PL} {i:Nat} {x:PL} (h:xs[i]? = some x):ia_ (xs.take (i+1))=ia_ (xs.take i)++x.l:=by unfold ia_;rw[yaz_,h];simp
theorem ws_ {xs:List PL} (h:∀ x∈xs,x.ok) (i:Nat):(ia_ (xs.take i)).length<=min i xs.length*100000:=by
  have:=zl_ (g:=PL.l) (n:=100000) (xs.take i) λx d=>(h x (ybO_ d)).sh
  rwa [yaD_]at this
theorem Bx_ (n:Nat) (x:n<=1000000000):Tri prog 93 #[.slice none 0 0,iv_ n] [] [] (λy:{y:Value×Hp // at_ 80 10 y.1 0 [] y.2}=>y.1.1) (λy=>y.1.2) (λ_=>[]):=by
 refine i_ func93 rfl rfl ntmps93 rfl λv=>?_;refine Zi 9 (λe=>?_) λe=>?_
 .refine Zz 10 ?_
  refine e_ (ky_ J_ rfl) rfl (Zz 3 ?_);refine e_ (ao_ (aC_ rfl rfl rfl (bq_ zaa_ zaa_)) (show iv_ ((n:Int) - (0 - 0))=iv_ n from yae_ _ zaa_)) rfl (Zi 6 (λd=>?_) λd=>?_)
  .refine Zz 12 ?_
   exact ab_ results93 ⟨(.slice none 0 0,[]),at_.nil _ _⟩ rfl g_ zt
  refine Zz 6 ?_;refine e_ (ky_ J_ rfl) rfl (e_ (ao_ (cV_ (i:=0) (j:=0) (kl:=.i64) (kh:=.i64) J_ K_ rfl rfl rfl zaa_ zaa_) (show _=Value.slice none 0 0 from rfl)) rfl (Zz 1 ?_));refine mI_ (n:=n) rt_ m_ rfl rfl zaa_ zaa_ zaq_ rfl λm h q=>?_;refine Zz 2 ?_;refine e_ (ao_ (cV_ (i:=0) (j:=0) (kl:=.i64) (kh:=.i64) J_ K_ rfl rfl rfl zaa_ zaa_) (show _=Value.slice (some ⟨h,0,none⟩) 0 m.1 by simp[nW_])) rfl (Zz 10 ?_);exact ab_ results93 ⟨(.slice (some ⟨h,0,none⟩) 0 m.1,[(h,.cells m.2 80 (0,0))]),pF_ q.2.1 q.2.2⟩ rfl d_ zt
 exfalso;omega
theorem zE_ (xs:List PL) (B:Ao) (A:Nat) (q:∀ x∈xs,x.ok) (hl:xs.length<=100):Tri prog 46 #[.slice B xs.length A] [] [ac_ B (xs.flatMap PL.cells),plF xs] (λy:{y:Ao×Nat // ((ia_ xs)).length<=y.2/\y.2<=maxLen/\(y.1=none->y.2=0)}=>.slice y.1.1 ((ia_ xs)).length y.1.2) (λ_=>[]) (λy=>[ac_ y.1.1 (((ia_ xs)).flatMap Pc.cells)]):=by
 refine i_ func46 rfl rfl ntmps46 rfl λZ=>?_;refine Zz 19 ?_;refine H_ (ι:={y:Nat×Nat // y.1<=List.length xs/\y.2<=y.1*100000}) (λy=>[(0,.slice B xs.length A),(3,iv_ y.1.2),(9,.slice B xs.length A),(10,iv_ (List.length xs:Int)),(11,iv_ y.1.1)]) (λy=>([])) (λy=>[ac_ B (xs.flatMap PL.cells),plF xs]) (λy=>xs.length - y.1.1) ⟨((0:Nat),(0:Nat)),by simp,by simp⟩ zl g_ zh ?_;rintro ⟨⟨i,w⟩,hi,Y⟩;dsimp only at hi Y ⊢;refine Zi 2 (λF=>?_) λF=>?_
 .refine Zz 9 ?_
  refine f_ (Bx_ w zaa_) rfl g_ zt rfl λ⟨⟨E,K⟩,L⟩=>?_;dsimp only;dsimp only at L;refine A_ dk_ ?_;have S:at_ 80 10 E (ia_ (xs.take 0)).length (List.flatMap Pc.cells (ia_ (xs.take 0))) K:=by exact L
  refine Zz 12 ?_;refine H_ (ι:={y:Nat×Value×Hp // y.1<=List.length xs/\zR 80 10 Pc.cells y.2.1 (ia_ (xs.take y.1)) y.2.2}) (λy=>[(0,.slice B xs.length A),(6,y.1.2.1),(25,.slice B xs.length A),(26,iv_ (List.length xs:Int)),(27,iv_ y.1.1)]) (λy=>(y.1.2.2)) (λy=>[ac_ B (xs.flatMap PL.cells),plF xs]) (λy=>xs.length - y.1.1) ⟨((0:Nat),E,K),by simp,S⟩ zl T_ zh ?_;rintro ⟨⟨j,V,W⟩,hj,m⟩;dsimp only at hj m ⊢;have X:=ws_ q j;refine Zi 2 (λG=>?_) λG=>?_
  .rw[yab_ zaa_]at m
   refine Zz 13 ?_;refine aW_ m T_ λP T O I H J=>?_;exact ab_ results46 ⟨(P,T),I,H,J⟩ (fs_ rfl O) g_ zf
  obtain⟨C,e,M,d⟩:=zge (show j<xs.length by omega);have N:=(q e d).sh;refine Zz 18 ?_;refine eD_ (news:=List.flatMap Pc.cells (PL.l e)) rt_ m rfl rfl (q e d).nz (q e d).le T_ (by rw[cr_ Pc.cells 10 Pc.cells_len]) (λv _ h=>by exact (h.2.1 e d)) (λu hu=>az_ Pc.cells_one hu) (by simp only[maxLen];(have:=(q e d).sh;omega)) (by (have:=(q e d).sh;omega)) rfl λQ U F=>?_;refine A_ yaB_ ?_;have R:=zsa F;refine Zz 8 ?_;exact u_ ⟨(j+1,Q,U),C,(by rw[uc_ M];exact R)⟩ zab_ zl T_ zh
 obtain⟨C,e,M,d⟩:=zge (show i<xs.length by omega);have N:=(q e d).sh;refine Zi 27 (λG=>?_) λG=>?_
 .refine Zz 10 ?_
  exact u_ ⟨(i+1,w+List.length (PL.l e)),C,by have:=(q e d).sh;dsimp only;omega⟩ zab_ ⟨rfl,(bl_ rfl (by push_cast;rfl)),rfl,rfl,rfl,trivial⟩ g_ zh
 exfalso;omega
theorem ft_ {s:Str} {q:Str->Bool} (h:bY_ true s q=true) (d:q []=false):s≠[]:=by
  intro e;subst e;simp[bY_,d]at h
theorem pcN_of {x:Pc} (h:x.valid=true):PcN x:=by
 unfold Pc.valid at h
 by_cases A:x.kind<1\/9<x.kind\/x.frm < -1\/1024<=x.frm
 .rw[yao_ A]at h;cases h
 rw[yag_ A]at h
 by_cases v:(nus x.kind).numbers=true/\(x.lo < -1099511627776\/x.hi<x.lo\/1099511627776<x.hi)
 .rw[yao_ v]at h;cases h
 rw[yag_ v]at h
 by_cases y:(nus x.kind).numbers=false/\(x.lo≠0\/x.hi≠0)
 .rw[yao_ y]at h;cases h
 rw[yag_ y]at h;simp only[yaq_]at h;obtain⟨⟨⟨⟨⟨I,G⟩,q⟩,C⟩,H⟩,E⟩:=h;have hk:1<=x.kind/\x.kind<=9:=by omega
 have m:bd_ []=false:=by decide
 have B:ct_ []=false:=by decide
 have F:aV_ []=false:=by decide
 refine⟨hk,λt d=>?_⟩;have e:(if (nus x.kind).numbers then aV_ else ct_) []=false:=by split<;>assumption
 rcases kinds9 hk with k|k|k|k|k|k|k|k|k<;>rw[k]at q C E e<;>simp[ut_,k]at d
 .subst d;exact ft_ q m
 .subst d;exact ft_ q m
 .rcases d with rfl|rfl
  .exact ft_ C e
  exact ft_ q m
 .subst d;exact ft_ q m
 .subst d;exact ft_ E B
 .subst d;exact ft_ E B
 .subst d;exact ft_ C e
 .subst d;exact ft_ C e
 subst d;exact ft_ q m
end Go.Proofs.YtbffkokbdeppaaaGreatDoor
namespace Go.Vs
open Go Go.Sx Go.Proofs.YtbffkokbdeppaaaGreatDoor
structure Rcd.ok (x:Rcd):Prop where
  a:x.a.length<=x.acap/\x.acap<=maxLen/\(x.aad=none->x.acap=0)
  r:x.r.length<=x.rcap/\x.rcap<=maxLen/\(x.rad=none->x.rcap=0)
  f:x.f.length<=x.fcap/\x.fcap<=maxLen/\(x.fad=none->x.fcap=0)
end Go.Vs
namespace Go.Proofs.YtbffkokbdeppaaaGreatDoor
open Go Go.Sx Go.Proofs Tryz
attribute [local irreducible] Code.wp wpList wpAnyH
open Go.Vs
theorem bD_:KeyT prog 9 str:=sP_ aO_
theorem pL_ (l:List Ax) (ad:Ao) (cap:Nat) (B:∀ x∈l,x.ok) (F:∀ x∈l,x.check=0) (G:l.length<=100000):Tri prog 129 #[.slice ad l.length cap] [] [cG_ ad l,bN_] (λ_:Unit=>iv_ 0) (λ_=>[]) (λ_=>[]):=by
 refine i_ func129 rfl rfl ntmps129 rfl λE=>?_;refine Zz 14 ?_;refine H_ (ι:={y:Nat // y<=List.length l}) (λy=>[(2,iv_ 0),(6,.slice ad l.length cap),(7,iv_ (List.length l:Int)),(8,iv_ y.1)]) (λy=>([])) (λy=>[cG_ ad l,bN_]) (λy=>l.length - y.1) ⟨(0:Nat),by simp⟩ zl g_ zh ?_;rintro ⟨i,A⟩;dsimp only at A ⊢;refine Zi 2 (λq=>?_) λq=>?_
 .refine Zz 12 ?_
  exact ab_ results129 () rfl g_ zt
 obtain⟨m,e,C,d⟩:=zge (show i<l.length by omega);refine Zz 12 ?_;refine x_ aJ_ rfl λH=>n_ 0 L_ rfl rfl rfl rfl rfl rfl (Zz 5 ?_)
 refine f_ (qw_ (B e d) (F e d)) rfl g_ (λv _ h=>by exact⟨(h.1.2 e d),h.2.1,trivial⟩) rfl λ_=>Zz 6 ?_
 refine e_ (ao_ (cg_ rfl rfl) (show _=Value.bool false from yae_ Value.bool zae_)) rfl (Zz 10 ?_);exact u_ ⟨i+1,m⟩ zab_ zl g_ zh
theorem gw_ {G:Prop} (h:G:=by
 have d:Ax.selfs x=m:=by rw[hm,yab_ zaa_];rfl
 exact ab_ results213 () (s_ rfl (by unfold Ax.exm;rw[q,d];rw[ybx_];simp only[yaq_,yby_,ybp_,yaI_,yaV_,yak_,ycB_,v,ydi_,false_and,true_iff,ybn_,false_iff,reduceCtorEq];omega)) g_ zt):G:=h
theorem zo_ (x:Ax) (i:Nat) (L:x.ok) (hi:i<x.roles.length):Tri prog 213 #[Ax.val x,iv_ i] [] [Ax.memF x] (λ_:Unit=>.bool (x.exm i)) (λ_=>[]) (λ_=>[]):=by
 refine i_ func213 rfl rfl ntmps213 rfl λN=>?_;have O:=L.cap;obtain⟨Q,q⟩:∃ r,x.roles[i]? = some r:=⟨_,yaa_ hi⟩;refine Zz 2 ?_;refine P_ rfl rfl λG=>Zz 6 ?_
 refine D_ 0 [0,1,2,3,4,5,6,7] zk zs (Zi 7 (λC=>?_) λC=>?_)
 .have v:Q=Ax.role x:=by simpa using C
  refine Zz 29 ?_;refine H_ (ι:={y:Nat×Nat // y.1<=List.length x.roles/\y.2=List.countP (λr=>decide (r=x.role)) (x.roles.take y.1)}) (λy=>[(1,iv_ i),(2,zp_ G 0),(4,.bool false),(5,iv_ (List.length x.roles:Int)),(6,iv_ y.1.2),(21,.slice x.ad x.roles.length x.cap),(22,iv_ (List.length x.roles:Int)),(23,iv_ y.1.1)]) (λy=>((G,.cells (Ax.cells x).toArray 30 (0,0))::[])) (λy=>[Ax.memF x]) (λy=>x.roles.length - y.1.1) ⟨((0:Nat),(0:Nat)),by simp,zaj_⟩ zl d_ zh ?_;rintro ⟨⟨j,m⟩,H,hm⟩;dsimp only at H hm ⊢;refine Zi 2 (λI=>?_) λI=>?_
  .refine Zi 9 (λe=>?_) λe=>?_
   .refine Zi 14 (λB=>?_) λB=>?_
    .refine Zz 11 ?_
     exact gw_
    refine Zz 5 ?_;refine E_ (bz_ rfl rfl) rfl λM A=>Zz 7 ?_
    have d:Ax.selfs x=m:=by rw[hm,yab_ zaa_];rfl
    exact ab_ results213 () (s_ rfl (by rw[<-A];unfold Ax.exm;rw[q,d];rw[ybx_];simp only[yaq_,yby_,ybp_,yaI_,yaV_,yak_,ycB_,v,ydi_,false_and,true_iff,ybn_,false_iff,reduceCtorEq];omega)) g_ zt
   refine Zi 4 (λB=>?_) λB=>?_
   .refine Zz 7 ?_
    refine e_ (ao_ (aC_ rfl rfl rfl (bq_ zaa_ zaa_)) (show _=iv_ ((List.length x.roles:Int) - 1) from rfl)) rfl (ay_ rfl rfl ?_);refine Zi 0 (λA=>?_) λA=>?_
    .refine Zi 7 (λJ=>?_) λJ=>?_
     .refine Zz 11 ?_
      exact gw_
     refine Zz 5 ?_;refine E_ (bz_ rfl rfl) rfl λM F=>Zz 7 ?_
     have d:Ax.selfs x=m:=by rw[hm,yab_ zaa_];rfl
     exact ab_ results213 () (s_ rfl (by rw[<-F];unfold Ax.exm;rw[q,d];rw[ybx_];simp only[yaq_,yby_,ybp_,yaI_,yaV_,yak_,ycB_,v,ydi_,false_and,true_iff,ybn_,false_iff,reduceCtorEq];omega)) g_ zt
    refine Zz 15 ?_;exact gw_
   refine Zz 21 ?_;exact gw_
  have h:j<x.roles.length:=by omega
  obtain⟨P,E⟩:∃ K,x.roles[j]? = some K:=⟨_,yaa_ h⟩;refine Zi 20 (λe=>?_) λe=>?_
  .refine Zz 10 ?_
   exact u_ ⟨(j+1,m),h,zcf_⟩ zab_ zl d_ zh
  refine Zz 5 ?_;refine e_ (ao_ (aC_ rfl rfl rfl (bq_ zaP_ zaP_)) (show _=iv_ ((m+1:Nat):Int) from yae_ _ zaa_)) rfl ?_;refine Zz 8 ?_;exact u_ ⟨(j+1,(m+1)),h,zcf_⟩ zab_ zl d_ zh
 refine Zz 10 ?_;exact ab_ results213 () (s_ rfl (by unfold Ax.exm;rw[q];simp[C])) g_ zt
theorem me_ {G:Prop} (h:G:=by
 refine sz_ (k:=r) (s:=s) (e:=e) bD_ (.inr rfl) Q_ F h (by rw[q];simp) rfl rfl rfl T_ λx d=>?_;refine A_ dk_ (Zz 2 ?_);exact co_ results212 ⟨(ks,x),d,λk hk=>.inl hk⟩ rfl T_ zt):G:=h
theorem mf_ {G:Prop} (h:G:=by
 refine sz_ (k:=r) (s:=s) (e:=e) bD_ (.inr rfl) Q_ d v (by rw[q];simp) rfl rfl rfl T_ λA B=>?_;refine A_ dk_ (Zz 2 ?_);exact co_ results212 ⟨((ks++[(r,C)]),A),B,λk hk=>by rw[yat_,yah_]at hk;exact hk.imp id zaj_⟩ rfl T_ zt):G:=h
theorem vT_ (r s:Str) (e:Bool) (cb G:Nat) (ks:List (Str×Nat)) (S:List RSt) (Hx:Hp) (F:MmO G ks S Hx):Tri prog 212 #[str r,str s,.bool e,zp_ cb 0] Hx [ch_ cb (.cells #[.map (some G)] 186 (0,0))] (λ_:{y:List (Str×Nat)×Hp // MmO G y.1 (S++[(r,s,e)]) y.2/\∀ k∈y.1.map (·.1),k∈ks.map (·.1)\/k=r}=>.tuple #[]) (λy=>y.1.2) (λ_=>[]):=by
 refine i_ func212 rfl rfl ntmps212 rfl λJ=>?_;refine Zz 5 ?_;refine e_ (eZ_ (k:=r) bD_ dj_ dA_ F rfl rfl T_) rfl (E_ (xv_ underlying151 rfl rfl) rfl λH m=>Zz 2 ?_);cases H
 .replace m:=zdf m
  obtain⟨I,h⟩:=Option.ne_none_iff_exists'.1 m;refine Zz 6 ?_;refine e_ (ao_ (eZ_ (k:=r) bD_ dj_ dA_ F rfl rfl T_) (yae_ mX_ h)) rfl (Zz 3 ?_);refine e_ (ao_ (eZ_ (k:=r) bD_ dj_ dA_ F rfl rfl T_) (yae_ mX_ h)) rfl (Zz 1 ?_);refine E_ (jZ_ (k:=r) (s:=s) bD_ Q_ aG_ F h rfl rfl T_) rfl λE q=>Zz 1 ?_
  cases E
  .refine Zz 3 ?_
   exact me_
  refine Zz 2 ?_;exact me_
 replace m:=zdt m;refine Zz 4 ?_;refine bf_ rfl λC=>yC_ (k:=r) bD_ (.inr rfl) dj_ F m rfl rfl rfl (l_ d_ T_) λx d=>A_ dk_ ?_
 have v:gU_ (ks++[(r,C)]) r=some C:=xM_ m;refine Zz 5 ?_;refine e_ (ao_ (eZ_ (k:=r) bD_ dj_ dA_ d rfl rfl T_) (yae_ mX_ v)) rfl (Zz 3 ?_);refine e_ (ao_ (eZ_ (k:=r) bD_ dj_ dA_ d rfl rfl T_) (yae_ mX_ v)) rfl (Zz 1 ?_);refine E_ (jZ_ (k:=r) (s:=s) bD_ Q_ aG_ d v rfl rfl T_) rfl λE q=>Zz 1 ?_
 cases E
 .refine Zz 3 ?_
  exact mf_
 refine Zz 2 ?_;exact mf_
theorem AC_ (l:List Ax) (ad:Ao) (cap:Nat) (a4:∀ x∈l,x.ok) (hC:∀ x∈l,x.check=0) (hll:l.length<=100000):Tri prog 131 #[.slice ad l.length cap] [] [cG_ ad l] (λy:{y:Nat×List (Str×Nat)×Hp // MmO y.1 y.2.1 (cX_ l) y.2.2/\Frm y.2.1 (cX_ l)}=>.map (some y.1.1)) (λy=>y.1.2.2) (λ_=>[]):=by
 refine i_ func131 rfl rfl ntmps131 rfl λv_1=>?_;refine Zz 7 ?_;refine bf_ rfl λI=>x_ zeroValue186 rfl λJ=>n_ 0 sizeOf186 rfl rfl rfl rfl rfl rfl (Zz 4 ?_)
 refine e_ (aY_ rfl rfl) rfl (Zz 12 ?_);refine iM_ 0 rfl ?_;refine H_ (ι:={y:Nat×List (Str×Nat)×Hp // y.1<=List.length l/\MmO I y.2.1 (cX_ (l.take y.1)) y.2.2/\Frm y.2.1 (cX_ (l.take y.1))}) (λy=>[(2,.map none),(3,zp_ J 0),(4,.func (.func 212) #[] #[zp_ J 0]),(11,.slice ad l.length cap),(12,iv_ (List.length l:Int)),(13,iv_ y.1.1)]) (λy=>(y.1.2.2)) (λy=>[ch_ J (.cells #[.map (some I)] 186 (0,0)),cG_ ad l]) (λy=>l.length - y.1.1) ⟨((0:Nat),[],[(I,.map #[] 0)]),by simp,(by rw[ych_];exact MmO.nil I 0),Frm.nil⟩ zl d_ zh ?_;rintro ⟨⟨i,M,K⟩,Y,F,E⟩;dsimp only at Y F E ⊢;refine Zi 2 (λa1=>?_) λa1=>?_
 .refine Zz 13 ?_
  have a3:List.take i l=l:=yab_ zaa_;rw[a3]at F E;exact ab_ results131 ⟨(I,M,K),F,E⟩ rfl T_ zt
 obtain⟨H,d,C,m⟩:=zge (show i<l.length by omega);have Z:=Ax.good_of (hC d m);refine Zz 12 ?_;refine x_ aJ_ rfl λW=>n_ 0 L_ rfl rfl rfl rfl rfl rfl (Zi 11 (λB=>?_) λB=>?_)
 .refine Zi 6 (λq=>?_) λq=>?_
  .refine Zz 11 ?_
   exact u_ ⟨(i+1,M,K),H,(by rw[dB_ C,Ax.steps_no B q,yaw_];exact F),(by rw[dB_ C,Ax.steps_no B q,yaw_];exact E)⟩ zab_ zl B_ zh
  have hch:=Z.chain q;refine Zz 13 ?_;refine H_ (ι:={y:Nat×List (Str×Nat)×Hp // y.1<=List.length d.roles/\MmO I y.2.1 ((cX_ (l.take i))++Ax.chs d y.1) y.2.2/\Frm y.2.1 ((cX_ (l.take i))++Ax.chs d y.1)}) (λy=>[(2,.map none),(3,zp_ J 0),(4,.func (.func 212) #[] #[zp_ J 0]),(11,.slice ad l.length cap),(12,iv_ (List.length l:Int)),(13,iv_ i),(6,zp_ W 0),(39,.slice d.ad d.roles.length d.cap),(40,iv_ (List.length d.roles:Int)),(41,iv_ y.1.1)]) (λy=>((W,.cells (Ax.cells d).toArray 30 (0,0))::y.1.2.2)) (λy=>[ch_ J (.cells #[.map (some I)] 186 (0,0)),cG_ ad l]) (λy=>d.roles.length - y.1.1) ⟨((0:Nat),M,K),by simp,(by rw[Ax.chs,yaw_];exact F),E.more⟩ zl zp zh ?_;rintro ⟨⟨j,T,R⟩,a0,P,O⟩;dsimp only at a0 P O ⊢;refine Zi 2 (λX=>?_) λX=>?_
  .refine Zz 11 ?_
   exact u_ ⟨(i+1,T,R),H,(by rw[dB_ C,Ax.steps_six q,show d.roles.length=j from zaa_];exact P),(by rw[dB_ C,Ax.steps_six q,show d.roles.length=j from zaa_];exact O)⟩ zab_ zl B_ zh
  have A:j<d.roles.length:=by omega
  obtain⟨V,e⟩:∃ U,d.roles[j]? = some U:=⟨_,yaa_ A⟩;refine Zz 11 ?_;refine e_ (Z_ o_ G_ rfl rfl (λv _ h=>aA_ (n:=1) au_ zae_ zcc_ e) zaa_ zai_) rfl ?_;refine e_ (bA_ (ad:=d.ad) ad_ rfl (λv _ h=>by exact (h.2.1.2 d m).2.2) (w_ au_ e 0 _ rfl)) rfl (Zz 8 ?_);refine S_ (zo_ d j (a4 d m) A) rfl g_ (λv _ h=>by exact⟨(h.2.1.2 d m),trivial⟩) rfl λa2 N=>e_ (as_ rfl) rfl (Zz 2 ?_)
  cases a2
  .refine Zz 6 ?_
   refine ap_ (vT_ V d.role true J I T ((cX_ (l.take i))++Ax.chs d j) R P) rfl rfl B_ zf rfl λ⟨⟨Q,S⟩,L,G⟩=>?_;dsimp only;dsimp only at L G;refine Zz 2 ?_;refine A_ (bc_ aU_) (Zz 5 ?_);exact u_ ⟨(j+1,Q,S),A,(by rw[Ax.chs_no e N,<-yar_];exact L),(by rw[Ax.chs_no e N,<-yar_];exact O.add G)⟩ zab_ zl zp zh
  refine Zz 8 ?_;exact u_ ⟨(j+1,T,R),A,(by rw[Ax.chs_yes e N];exact P),(by rw[Ax.chs_yes e N];exact O)⟩ zab_ zl zp zh
 have a5:=Z.one B;have A:0<d.roles.length:=by omega
 obtain⟨V,e⟩:∃ U,d.roles[0]? = some U:=⟨_,yaa_ A⟩;refine Zz 6 ?_;refine D_ 0 [0,1,2,3,4,5,6] zk zs (Zz 2 ?_);refine M_ rfl (Z_ o_ G_ rfl rfl (λv _ h=>aA_ (n:=1) au_ zae_ zcc_ e) zaa_ zai_) rfl ?_;refine M_ rfl (bA_ (ad:=d.ad) ad_ rfl (λv _ h=>by exact (h.2.1.2 d m).2.2) (w_ au_ e 0 _ rfl)) rfl (Zi 2 (λq=>?_) λq=>?_)
 .refine Zz 11 ?_
  exact u_ ⟨(i+1,M,K),H,(by rw[dB_ C,Ax.steps_same B e q,yaw_];exact F),(by rw[dB_ C,Ax.steps_same B e q,yaw_];exact E)⟩ zab_ zl B_ zh
 refine Zz 4 ?_;refine ak_ ((W,.cells (Ax.cells d).toArray 30 (0,0))::[]) zk ?_;refine D_ 1 [0,1,2,3,4,5,6] zk zs (Zz 3 ?_);refine M_ rfl (Z_ o_ G_ rfl rfl (λv _ h=>aA_ (n:=1) au_ zae_ zcc_ e) zaa_ zai_) rfl ?_;refine M_ rfl (bA_ (ad:=d.ad) ad_ rfl (λv _ h=>by exact (h.2.1.2 d m).2.2) (w_ au_ e 0 _ rfl)) rfl (Zz 3 ?_);refine p_ 7 rfl zk (ap_ (vT_ V d.role false J I M (cX_ (l.take i)) K F) rfl rfl B_ zf rfl λ⟨⟨Q,S⟩,L,G⟩=>?_);dsimp only;dsimp only at L G;refine Zz 5 ?_;refine A_ (bc_ aU_) (Zz 5 ?_);exact u_ ⟨(i+1,Q,S),H,(by rw[dB_ C,Ax.steps_five B e q];exact L),(by rw[dB_ C,Ax.steps_five B e q];exact E.add G)⟩ zab_ zl B_ zh
def te_ (e:Nat×Bool):List Value:=[.int .i64 (e.1:Int),.bool e.2]
theorem oQ_ (e:Nat×Bool):(te_ e).length=2:=rfl
theorem zq_ (e:Nat×Bool):(te_ e).all Value.oneCell'=true:=rfl
structure Grw where
  st:List (Nat×Bool)
  ad:Ao
  cap:Nat
def Grw.cells (x:Grw):List Value:=[.slice x.ad x.st.length x.cap]
theorem Grw.cells_len (x:Grw):x.cells.length=1:=rfl
theorem Grw.cells_one (x:Grw):x.cells.all Value.oneCell'=true:=rfl
def id_ (X:List Grw):Fct where
  p v:=∀ y∈X,bG_ v y.ad (y.st.flatMap te_)
  mono v v' h hp y hy:=(ac_ y.ad (y.st.flatMap te_)).mono v v' h (hp y hy)
theorem us_ {X:List Grw} {y:Grw} {v:Vw} (h:(id_ X).p v) (e:(ac_ y.ad (y.st.flatMap te_)).p v):(id_ (X++[y])).p v:=λz d=>by
 rcases yah_.1 d with d|d
 .exact h z d
 rw[yai_]at d;subst d;exact e
def wyC (w:Wy):List Value:=[.int .i64 (w.role:Int),.bool w.strict,.int .i64 (w.before:Int),.int .i64 (w.many:Int)]
theorem nh_ (w:Wy):(wyC w).length=4:=rfl
theorem uW_ (w:Wy):(wyC w).all Value.oneCell'=true:=rfl
theorem iE_ {l:List Str} (hl:l.Nodup):SrS (bb_ l):=by
 have e:=gf_ l;have d:(bb_ l).Nodup:=(ycE_ _ _).nodup_iff.2 hl;unfold List.Nodup at d;refine ydc_ (fun {a b} hab=>?_) (e.and d)
 by_cases g:a<b
 .exact g
 exact absurd (ycw_ hab.1 (ycc_.1 g)) hab.2
theorem SrS.nd {l:List Str} (h:SrS l):l.Nodup:=h.imp λd e=>by subst e;exact ybM_ _ d
theorem bs_lo {R:List Str} (h:SrS R) {m:Nat} {x t:Str} (e:R[m]? = some x) (hl:x<t):∀ (a:Nat) y,a<m+1->R[a]? = some y->y<t:=λa y q d=>by
 rcases ydL_ a m with g|g
 .exact ybU_ (tY_ h d e g) hl
 obtain rfl:a=m:=by omega
 rw[e]at d;simp only[yak_]at d;subst d;exact hl
theorem bs_hi {R:List Str} (h:SrS R) {m:Nat} {x t:Str} (q:R[m]? = some x) (hl:¬ x<t):∀ (a:Nat) y,m<=a->R[a]? = some y->¬ y<t:=λa y v e d=>by
 rcases ydL_ m a with g|g
 .exact hl (ybU_ (tY_ h q e g) d)
 obtain rfl:a=m:=by omega
 rw[q]at e;simp only[yak_]at e;subst e;exact hl d
theorem CA_ {R:List Str} (h:SrS R) {m:Nat} {t:Str} (q:∀ (a:Nat) y,a<m->R[a]? = some y->y<t) (e:∀ (a:Nat) y,m<=a->R[a]? = some y->¬ y<t) (v:R[m]? ≠ some t):t ∉ R:=λx=>by
 obtain⟨a,d⟩:=ybq_ x;rcases ycM_ a m with g|g|g
 .exact ybM_ t (q a t g d)
 .subst g;exact v d
 have hl:=(yac_.1 d).1;have hm:=yaa_ (show m<R.length by omega);exact e m _ (yaj_ _) hm (tY_ h hm d g)
section
variable {P:Program} {N:Nf} {fr:Fr} {H:Hp} {Γ:List Fct} {ty:TypeId}
theorem xs_ {t q:TypeId} {x y:Operand} {C:IntKind} {m:Nat} (B:Fr.ev fr x=some (.int .u64 (m:Int))) (h:Fr.ev fr y=some (.int C 1)):Yld P N fr H Γ (.binOp .shr t x y q) ty (.int .u64 ((m / 2:Nat):Int)) :=
  λa v d _ _ _ _ _=>by
    have e:¬ ((1:Int)<0):=by omega
    have A:(m:Int).fdiv 2=(m:Int) / 2:=Int.fdiv_eq_ediv_of_nonneg _ zae_;simp[execOp,d.ev B,d.ev h,eqGuard,binOp,Op.shift,e,IntKind.bits,A]
end
def GrR (S:List RSt) (R:List Str) (r:Str) (ss:List Str) (L:List (Nat×Bool)):Prop:=∀ j c,(j,c)∈L↔∃ s,s∈ss/\R[j]? = some s/\c=flg S r s
theorem GrR.nil {S:List RSt} {R:List Str} {r:Str}:GrR S R r [] []:=λj c=>by simp
theorem GrR.yes {S:List RSt} {R:List Str} {r s:Str} {ss:List Str} {L:List (Nat×Bool)} {n:Nat} (h:GrR S R r ss L) (v:R.Nodup) (q:R[n]? = some s):GrR S R r (ss++[s]) (L++[(n,flg S r s)]):=λj c=>by
 rw[yah_,h,yai_,ybV_];constructor
 .rintro (⟨t,d,e,m⟩|⟨rfl,rfl⟩)
  .exact⟨t,yam_ _ d,e,m⟩
  exact⟨s,by simp,q,rfl⟩
 rintro ⟨t,d,e,m⟩;rcases yah_.1 d with d|d
 .exact .inl ⟨t,d,e,m⟩
 rw[yai_]at d;subst d;exact .inr ⟨yI_ v e q,m⟩
theorem GrR.no {S:List RSt} {R:List Str} {r s:Str} {ss:List Str} {L:List (Nat×Bool)} (h:GrR S R r ss L) (q:s ∉ R):GrR S R r (ss++[s]) L:=λj c=>by
 rw[h];constructor
 .rintro ⟨t,d,e,m⟩;exact⟨t,yam_ _ d,e,m⟩
 rintro ⟨t,d,e,m⟩;rcases yah_.1 d with d|d
 .exact⟨t,d,e,m⟩
 rw[yai_]at d;subst d;exact absurd (yad_ e) q
structure GrI (S:List RSt) (R:List Str) (X:List Grw) (i:Nat):Prop where
  len:X.length=i
  row:∀ (k:Nat) (r:Str) (y:Grw),R[k]? = some r->X[k]? = some y->GrR S R r (bb_ (ik S r)) y.st
  short:∀ y∈X,y.st.length<=S.length
theorem GrI.nil {S:List RSt} {R:List Str}:GrI S R [] 0:=⟨rfl,λk r y _ h=>by simp at h,by simp⟩
theorem GrI.snoc {S:List RSt} {R:List Str} {X:List Grw} {i:Nat} {r:Str} {y:Grw} (h:GrI S R X i) (A:R[i]? = some r) (x:GrR S R r (bb_ (ik S r)) y.st) (m:y.st.length<=S.length):GrI S R (X++[y]) (i+1):=by
 refine⟨by simp[h.len],λk q z e d=>?_,λz d=>by rcases yah_.1 d with d|d;exact h.short z d;rw[yai_]at d;subst d;exact m⟩;rcases ydL_ k X.length with g|g
 .rw[ybb_ g]at d;exact h.row k q z e d
 rw[ybh_ g]at d
 have hk:k - X.length=0:=by
   have:=(yac_.1 d).1;simp only[ybF_]at this;omega
 rw[hk]at d;simp only[ybe_,yak_]at d;subst d;have v:k=i:=by have:=h.len;omega
 subst v;rw[A]at e;simp only[yak_]at e;subst e;exact x
theorem GrI.done {S:List RSt} {ks:List (Str×Nat)} {X:List Grw} (B:Frm ks S) (A:∀ z∈S,z.1∈ks.map (·.1)) (x:(ks.map (·.1)).Nodup) (h:GrI S (bb_ (ks.map (·.1))) X (bb_ (ks.map (·.1))).length):GrO S (bb_ (ks.map (·.1))) (X.map Grw.st):=by
 refine⟨by rw[yaF_,h.len],SrS.nd (iE_ x),λr=>?_,λi r l v hl j c=>?_⟩
 .rw[ybc_]
  constructor
  .exact B r
  rintro ⟨s,c,C⟩;exact A _ C
 rw[yaH_,ycv_]at hl;obtain⟨y,q,rfl⟩:=hl;rw[h.row i r y v q j c];constructor
 .rintro ⟨s,d,e,m⟩;rw[ybc_,oJ_]at d;exact⟨s,e,d,m⟩
 rintro ⟨s,d,e,m⟩;exact⟨s,by rw[ybc_,oJ_];exact e,d,m⟩
theorem Aw_:gp_ prog 252 [(0,1),(1,1)] [iv_ 0,.bool false]:=⟨_,zeroValue252,runUnderlying252,λw=>by simp[ag_,cF_]⟩
theorem qG_:gp_ prog 256 [(0,1),(1,1),(2,1),(3,1)] [iv_ 0,.bool false,iv_ 0,iv_ 0]:=⟨_,pv_,runUnderlying256,λw=>by simp[ag_,cF_]⟩
theorem BI_:Elt prog 248 252 2 16:=hj_ underlying248 (z:=.agg #[iv_ 0,.bool false]) zac_ rfl zae_
theorem BH_:Elt prog 182 248 1 24:=hj_ underlying182 (z:=.slice none 0 0) zac_ rfl zae_
theorem zt_:Elt prog 257 256 4 32:=hj_ underlying257 (z:=.agg #[iv_ 0,.bool false,iv_ 0,iv_ 0]) zac_ rfl zae_
theorem za_ (s:Str):Fn0 prog 285 #[str s] (.bool false):=by
  refine i_ func285 rfl rfl ntmps285 rfl λd=>?_;refine Zz 9 ?_;refine e_ (ao_ (cJ_ rfl rfl) (show _=Value.bool false from yae_ Value.bool zaj_)) rfl (Zz 4 ?_);exact ab_ results285 () rfl g_ zt
theorem xh_ (x y:Str):Fn0 prog 264 #[str x,str y] (.bool (decide (x<y))):=by
  refine i_ func264 rfl rfl ntmps264 rfl λe=>?_;refine Zz 8 ?_;refine f_ (qZ_ x) rfl g_ zt rfl λ_=>Zz 11 ?_
  refine E_ (gd_ rfl rfl) rfl λh d=>Zz 5 ?_
  exact ab_ results264 () (s_ rfl (by rw[<-d])) g_ zt
theorem binS_c (R:List Str) (ad:Ao) (cap:Nat) (t:Str) (hS:SrS R) (hl:R.length<=100000000):Tri prog 211 #[.slice ad R.length cap,str t] [] [ac_ ad (R.flatMap al_)] (λy:{y:Nat×Bool // (y.2=true->R[y.1]? = some t)/\(y.2=false->t ∉ R)}=>.tuple #[iv_ y.1.1,.bool y.1.2]) (λ_=>[]) (λ_=>[]):=by
 refine i_ func211 rfl rfl ntmps211 rfl λM=>?_;refine Zz 22 ?_;refine H_ (ι:={y:Nat×Nat // y.1<=y.2/\y.2<=List.length R/\(∀ (a:Nat) (z:Str),a<y.1->R[a]? = some z->z<t)/\(∀ (a:Nat) (z:Str),y.2<=a->R[a]? = some z->¬ z<t)}) (λy=>[(0,.slice ad R.length cap),(1,str t),(6,iv_ (List.length R:Int)),(7,iv_ y.1.1),(8,iv_ y.1.2)]) (λy=>([])) (λy=>[ac_ ad (R.flatMap al_)]) (λy=>y.1.2 - y.1.1) ⟨((0:Nat),R.length),zaa_,zaa_,(λa y h=>absurd h zab_),(λa y h e=>by have:=(yac_.1 e).1;dsimp only at h;omega)⟩ zl g_ zh ?_;rintro ⟨⟨lo,hi⟩,J,K,F,hB⟩;dsimp only at J K F hB ⊢;refine Zi 5 (λE=>?_) λE=>?_
 .obtain rfl:lo=hi:=by omega
  refine Zi 10 (λd=>?_) λd=>?_
  .refine Zz 24 ?_
   exact fP_ results211 ⟨(lo,false),λq=>zbS_,λ_=>CA_ hS F hB (λq=>by have:=(yac_.1 q).1;omega)⟩ rfl rfl rfl g_ zt
  have A:lo<R.length:=by omega
  obtain⟨O,x⟩:∃ v,R[lo]? = some v:=⟨_,yaa_ A⟩;refine Zi 12 (λm=>?_) λm=>?_
  .refine Zz 11 ?_
   refine f_ (za_ O) rfl g_ zt rfl λ_=>Zz 14 ?_
   exact fP_ results211 ⟨(lo,false),λq=>zbS_,λ_=>CA_ hS F hB (λq=>by rw[x]at q;exact m (ybl_ q))⟩ rfl rfl rfl g_ zt
  refine Zz 19 ?_;exact fP_ results211 ⟨(lo,true),λ_=>by rw[x,m],λq=>by cases q⟩ rfl rfl rfl g_ zt
 have I:(lo+hi) / 2<R.length:=by omega
 have C:((lo+hi) / 2)<R.length:=I;obtain⟨L,B⟩:∃ v,R[((lo+hi) / 2)]? = some v:=⟨_,yaa_ C⟩;refine Zz 10 ?_;refine e_ (ao_ (aC_ rfl rfl rfl (bq_ zaa_ zaa_)) (show _=iv_ ((lo+hi:Nat):Int) from yae_ _ zaa_)) rfl (e_ (uV_ m_ underlying231 rfl (wrapU zaa_ zaa_)) rfl (e_ (xs_ rfl rfl) rfl (e_ (uV_ underlying231 m_ rfl (bq_ zaa_ zaa_)) rfl (Zz 10 ?_))));refine S_ (xh_ L t) rfl g_ zt rfl λG d=>Zz 2 ?_
 cases G
 .replace d:=zdf d
  refine Zz 6 ?_;exact u_ ⟨(lo,((lo+hi) / 2)),zaa_,zaa_,F,bs_hi hS B d⟩ zab_ zl g_ zh
 replace d:=zdt d;refine Zz 3 ?_;refine e_ (ao_ (aC_ rfl rfl rfl (bq_ zaa_ zaa_)) (show _=iv_ (((lo+hi) / 2+1:Nat):Int) from yae_ _ zaa_)) rfl (Zz 3 ?_);exact u_ ⟨(((lo+hi) / 2+1),hi),zaa_,K,bs_lo hS B d,hB⟩ zab_ zl g_ zh
end Go.Proofs.YtbffkokbdeppaaaGreatDoor
namespace Go.Proofs.YtbffkokbdeppaaaGreatDoor
open Go Go.Sx Go.Proofs Tryz
attribute [local irreducible] Code.wp wpList wpAnyH
open Go.Vs
theorem xN_ {ks:List (Str×Nat)} {k:Str} (h:k∈ks.map (·.1)):∃ b,gU_ ks k=some b:=by
  cases e:gU_ ks k with
  | none=>exact absurd h (jg_ e)
  | some b=>exact⟨b,rfl⟩
theorem ur_ {S:List RSt} {r:Str}:(ik S r).length<=S.length:=by
  have h:(ik S r) ⊆ S.map (·.2.1):=λs d=>by
    obtain⟨c,e⟩:=oJ_.1 d;exact yap_.2 ⟨_,e,rfl⟩
  have:=(Cx_ S r).length_le_of_subset h;rwa [yaF_]at this
theorem ue_ (m:Nat) (ks:List (Str×Nat)) (S:List RSt) (Hx:Hp) (hT0:MmO m ks S Hx) (hF:Frm ks S) (hkl:ks.length<=100000) (hSl:S.length<=100000):Tri prog 130 #[.map (some m)] Hx [] (λy:{y:List Grw×Ao×Nat×Ao×Nat // GrO S (bb_ (List.map (λp:Str×Nat=>p.1) ks)) (y.1.map Grw.st)/\(∀ z∈y.1,z.st.length<=S.length)/\y.1.length=List.length ks/\(List.length (bb_ (List.map (λp:Str×Nat=>p.1) ks))<=y.2.2.1/\y.2.2.1<=maxLen/\(y.2.1=none->y.2.2.1=0))/\(List.length y.1<=y.2.2.2.2/\y.2.2.2.2<=maxLen/\(y.2.2.2.1=none->y.2.2.2.2=0))}=>.agg #[.slice y.1.2.1 (List.length (bb_ (List.map (λp:Str×Nat=>p.1) ks))) y.1.2.2.1,.slice y.1.2.2.2.1 y.1.1.length y.1.2.2.2.2]) (λ_=>[]) (λy=>[ac_ y.1.2.1 (List.flatMap al_ (bb_ (List.map (λp:Str×Nat=>p.1) ks))),ac_ y.1.2.2.2.1 (y.1.1.flatMap Grw.cells),id_ y.1.1]):=by
 obtain⟨es,R,E,rfl,hE⟩:=hT0;refine i_ func130 rfl rfl ntmps130 rfl λv_1=>?_;refine Zz 2 ?_;refine x_ zeroValue184 rfl λB=>Zz 5 ?_
 refine f_ (Bj_ m) rfl g_ zt rfl λbx=>?_;let Ru:Nat×Obj:=(bx,.cells #[.map (some m)] 186 (0,0));refine f_ (fe_ 284 [zp_ bx 0] [Ru,(m,.map es R)] (List.map (λp:Str×Nat=>p.1) ks) hE.nd zar_ (Bo_ m bx R es (List.map (λp:Str×Nat=>p.1) ks) ⟨hE.keys,hE.nd⟩ hE.born zar_)) rfl zp zt rfl λ⟨⟨rad,rcap⟩,a0,a2,a1⟩=>?_;dsimp only;have hrl:List.length (bb_ (List.map (λp:Str×Nat=>p.1) ks))=ks.length:=by rw[yaR_,yaF_]
 refine Zz 1 ?_;refine n_ 2 bP_ rfl rfl rfl rfl rfl rfl (Zz 12 ?_);refine A_ (l_ d_ (l_ (c_ d_) (l_ d_ T_))) ?_;try simp only[yaw_]
 let Pu:Hp:=((m,.map es R)::List.map (gr_ E) ks);have hT:MmO m ks S Pu:=⟨es,R,E,rfl,hE⟩;refine A_ (H':=(Ru::((B,.cells #[.slice rad (List.length (bb_ (List.map (λp:Str×Nat=>p.1) ks))) rcap,.slice none 0 0] 184 (0,0))::(Pu++([]:Hp))))) (List.Perm.cons _ (List.Perm.cons _ (yds_ (yaw_ _).symm))) ?_;refine H_ (ι:={y:Nat×List Grw×Value×Hp // y.1<=List.length (bb_ (List.map (λp:Str×Nat=>p.1) ks))/\GrI S (bb_ (List.map (λp:Str×Nat=>p.1) ks)) y.2.1 y.1/\zR 248 1 Grw.cells y.2.2.1 y.2.1 y.2.2.2}) (λy=>[(0,.map (some m)),(2,zp_ B 0),(15,.slice rad (List.length (bb_ (List.map (λp:Str×Nat=>p.1) ks))) rcap),(16,iv_ (List.length (bb_ (List.map (λp:Str×Nat=>p.1) ks)):Int)),(17,iv_ y.1.1)]) (λy=>((B,.cells #[.slice rad (List.length (bb_ (List.map (λp:Str×Nat=>p.1) ks))) rcap,y.1.2.2.1] 184 (0,0))::(Pu++y.1.2.2.2))) (λy=>[ac_ rad (List.flatMap al_ (bb_ (List.map (λp:Str×Nat=>p.1) ks))),id_ y.1.2.1]) (λy=>List.length (bb_ (List.map (λp:Str×Nat=>p.1) ks)) - y.1.1) ⟨((0:Nat),([]:List Grw),(.slice none 0 0),([]:Hp)),by simp,GrI.nil,(at_.nil _ _)⟩ zl zp (λv _ h=>by exact⟨h.1,(show (id_ ([]:List Grw)).p v from λz hz=>by simp at hz),trivial⟩) ?_;rintro ⟨⟨i,X,T,F⟩,c2,M,K⟩;dsimp only at c2 M K ⊢;refine Zi 2 (λJ=>?_) λJ=>?_
 .refine Zz 7 ?_
  refine aW_ K (c_ aU_) λb0 V c1 a5 a4 a7=>?_;subst c1;refine Zz 2 ?_;refine n_ 0 sizeOf184 rfl rfl rfl rfl rfl rfl (Zz 3 ?_);exact de_ ⟨(X,rad,rcap,b0,V),(by rw[show i=List.length (bb_ (List.map (λp:Str×Nat=>p.1) ks)) from by omega]at M;exact GrI.done hF hE.all hE.nd M),M.short,M.len.trans zaa_,⟨a0,a2,a1⟩,⟨a5,a4,a7⟩⟩ (λaa v h_1 h_2=>dy_ (us:=[.slice rad (List.length (bb_ (List.map (λp:Str×Nat=>p.1) ks))) rcap,.slice b0 X.length V]) 0 results130 isAgg184 sizeOf184 rfl rfl rfl aa v h_1 h_2) g_ zf
 have I:i<List.length (bb_ (List.map (λp:Str×Nat=>p.1) ks)):=by omega
 obtain⟨d,Y⟩:∃ Z,(bb_ (List.map (λp:Str×Nat=>p.1) ks))[i]? = some Z:=⟨_,yaa_ I⟩;have a8:d∈(bb_ (List.map (λp:Str×Nat=>p.1) ks)):=yad_ Y;refine Zz 22 ?_;have hkm:d∈(List.map (λp:Str×Nat=>p.1) ks):=ybc_.1 a8;obtain⟨bk,N⟩:=xN_ hkm;refine Zz 3 ?_;refine e_ (ao_ (eZ_ (k:=d) bD_ dj_ dA_ hT rfl rfl zp) (yae_ mX_ N)) rfl (f_ (jq_ bk) rfl g_ zt rfl λby_=>?_);obtain⟨b2,cb,Hr,O,P,a9,_⟩:=hT.at N;refine A_ (l_ d_ (l_ d_ (F_ aU_ T_))) ?_;try simp only[yaw_]
 let Qu:Nat×Obj:=(by_,.cells #[.map (some bk)] 151 (0,0));refine A_ (List.Perm.cons _ (List.Perm.cons _ (ybJ_ F O))) (f_ (fe_ 193 [zp_ by_ 0] [Qu,(bk,.map b2 cb)] (ik S d) (Cx_ S d) (by have:=ur_ (S:=S) (r:=d);omega) (jr_ bk by_ cb b2 (ik S d) ⟨P.keys,P.nd⟩ a9 (by have:=ur_ (S:=S) (r:=d);omega))) rfl (l_ d_ (c_ (j_ d_))) zt rfl λ⟨⟨sad,b3⟩,hss_1,hss_2,hss_3⟩=>?_);dsimp only;have hsl:List.length (bb_ (ik S d))=List.length (ik S d):=yaR_ _;have hil:=ur_ (S:=S) (r:=d);refine Zz 5 ?_;refine A_ (l_ d_ (l_ (c_ d_) (F_ (c_ z_) (l_ d_ T_)))) ?_;try simp only[yaw_]
 refine A_ (List.Perm.cons _ (List.Perm.cons _ (ybJ_ F O.symm))) (A_ (H':=(Qu::((B,.cells #[.slice rad (List.length (bb_ (List.map (λp:Str×Nat=>p.1) ks))) rcap,T] 184 (0,0))::(F++(Pu++([]:Hp)))))) (List.Perm.cons _ (List.Perm.cons _ (ybJ_ F (yds_ (yaw_ _).symm)))) ?_);refine H_ (ι:={y:Nat×List (Nat×Bool)×Value×Hp // y.1<=List.length (bb_ (ik S d))/\GrR S (bb_ (List.map (λp:Str×Nat=>p.1) ks)) d (List.take y.1 (bb_ (ik S d))) y.2.1/\y.2.1.length<=y.1/\zR 252 2 te_ y.2.2.1 y.2.1 y.2.2.2}) (λy=>[(0,.map (some m)),(2,zp_ B 0),(15,.slice rad (List.length (bb_ (List.map (λp:Str×Nat=>p.1) ks))) rcap),(16,iv_ (List.length (bb_ (List.map (λp:Str×Nat=>p.1) ks)):Int)),(17,iv_ i),(4,str d),(5,y.1.2.2.1),(25,.slice sad (bb_ (ik S d)).length b3),(26,iv_ (List.length (bb_ (ik S d)):Int)),(27,iv_ y.1.1)]) (λy=>((B,.cells #[.slice rad (List.length (bb_ (List.map (λp:Str×Nat=>p.1) ks))) rcap,T] 184 (0,0))::(F++(Pu++y.1.2.2.2)))) (λy=>[ac_ sad (List.flatMap al_ (bb_ (ik S d))),ac_ rad (List.flatMap al_ (bb_ (List.map (λp:Str×Nat=>p.1) ks))),id_ X]) (λy=>List.length (bb_ (ik S d)) - y.1.1) ⟨((0:Nat),([]:List (Nat×Bool)),(.slice none 0 0),([]:Hp)),by simp,(by rw[ych_];exact GrR.nil),zaj_,(at_.nil _ _)⟩ zl zp zh ?_;rintro ⟨⟨j,L,a6,b1⟩,b4,hL,hLl,e⟩;dsimp only at b4 hL hLl e ⊢;refine Zi 2 (λG=>?_) λG=>?_
 .refine Zz 6 ?_
  refine aW_ e (c_ (j_ aU_)) λlad lcap b5 hclad hmlad hzlad=>?_;subst b5;refine Zz 4 ?_;refine O_ runUnderlying182 sizeOf248 zeroValue248 rfl rfl rfl rfl rfl rfl λb_2=>?_;refine aj_ (news:=List.flatMap Grw.cells [(Grw.mk L lad lcap)]) BH_ K rfl rfl (c_ (c_ z_)) rfl (aL_ 0 rfl) (λu hu=>az_ Grw.cells_one hu) zaV_ zbl_ rfl λC H J=>?_;have A:=zsa J;refine Zz 1 ?_;refine A_ (Y_ (j_ d_) (bc_ (j_ d_))) (cn_ 1 A sizeOf182 rfl rfl rfl rfl (Zz 7 ?_));exact u_ ⟨(i+1,(X++[(Grw.mk L lad lcap)]),C,H),I,M.snoc Y (by have q:=hL;rw[yab_ zaa_]at q;exact q) zab_,A⟩ zab_ zl (l_ (c_ d_) (F_ (c_ aU_) B_)) (λv _ h=>by exact⟨h.2.2.1,us_ h.2.2.2.1 h.1,trivial⟩)
 have x:j<List.length (bb_ (ik S d)):=by omega
 obtain⟨b7,U⟩:∃ Z,(bb_ (ik S d))[j]? = some Z:=⟨_,yaa_ x⟩;refine Zz 20 ?_;refine f_ (binS_c (bb_ (List.map (λp:Str×Nat=>p.1) ks)) rad rcap b7 (iE_ hE.nd) zaa_) rfl g_ zf rfl λ⟨⟨b6,b9⟩,W,Q⟩=>?_;dsimp only;dsimp only at W Q;refine Zz 12 ?_;cases b9
 .refine Zz 8 ?_
  exact u_ ⟨(j+1,L,a6,b1),x,(by rw[take_snoc U];exact hL.no (Q rfl)),zab_,e⟩ zab_ zl zp zh
 refine Zz 6 ?_;refine e_ (ao_ (eZ_ (k:=d) bD_ dj_ dA_ hT rfl rfl zp) (yae_ mX_ N)) rfl (Zz 1 ?_);refine E_ (jZ_ (k:=d) (s:=b7) bD_ Q_ aG_ hT N rfl rfl zp) rfl λc0 b8=>e_ (C_ Aw_ rfl rfl) rfl (O_ runUnderlying248 sizeOf252 zeroValue252 rfl rfl rfl rfl rfl rfl λb_2=>?_)
 refine aj_ (news:=List.flatMap te_ [(Prod.mk b6 c0)]) BI_ e rfl rfl (c_ (c_ (j_ aU_))) rfl (aL_ 0 rfl) (λu hu=>az_ zq_ hu) zaV_ zbl_ rfl λC H G=>?_;have A:=zsa G;refine Zz 3 ?_;refine A_ (Y_ (j_ d_) (bc_ (j_ d_))) (Zz 5 ?_);exact u_ ⟨(j+1,(L++[(Prod.mk b6 c0)]),C,H),x,(by rw[take_snoc U,<-b8];exact hL.yes (SrS.nd (iE_ hE.nd)) (W rfl)),zbE_,A⟩ zab_ zl zp zh
theorem md_ {G:Prop} (h:G:=by
 refine A_ dk_ (Zz 14 ?_);exact u_ ⟨(k+1,(List.set (List.set M k d) (Int.toNat ((List.length L:Int) - 1 - (k:Int))) h),v,B),(by have q:=U.step F (show M[List.length L - 1 - k]? = some d from by rw[show L.length - 1 - k=(Int.toNat ((List.length L:Int) - 1 - (k:Int))) by omega];exact x) m;rw[show L.length - 1 - k=(Int.toNat ((List.length L:Int) - 1 - (k:Int))) by omega]at q;exact q),O,E⟩ zab_ ⟨rfl,rfl,(bl_ rfl zab_),trivial⟩ T_ zt):G:=h
theorem wl_ (L:List Int) (sv:Value) (Hr:Hp) (W:zR 3 1 fn_ sv L Hr) (hl:L.length<=1000000000):Tri prog 214 #[sv] Hr [] (λ_:{H:Hp // zR 3 1 fn_ sv L.reverse H}=>.tuple #[]) (λy=>y.1) (λ_=>[]):=by
 refine i_ func214 rfl rfl ntmps214 rfl λY=>?_;refine Zz 3 ?_;refine e_ (cv_ W aZ_ rfl) rfl (Zz 6 ?_);refine bx_ [(0,sv),(2,iv_ 0),(3,iv_ ((List.length L:Int) - 1 - ((0:Nat):Int)))] ⟨rfl,rfl,(bl_ rfl zaa_),trivial⟩ ?_;refine H_ (ι:={y:Nat×List Int×Value×Hp // RevI L y.2.1 y.1/\y.2.2.1=sv/\zR 3 1 fn_ y.2.2.1 y.2.1 y.2.2.2}) (λy=>[(0,y.1.2.2.1),(2,iv_ y.1.1),(3,iv_ ((List.length L:Int) - 1 - (y.1.1:Int)))]) (λy=>(y.1.2.2.2)) (λy=>[]) (λy=>L.length - y.1.1) ⟨((0:Nat),L,sv,Hr),RevI.zero L,rfl,W⟩ zl T_ zt ?_;rintro ⟨⟨k,M,v,V⟩,U,O,e⟩;dsimp only at U O e ⊢;refine Zi 5 (λC=>?_) λC=>?_
 .refine Zz 5 ?_
  have Z:=U.done C;subst Z;rw[O]at e;exact co_ results214 ⟨V,e⟩ rfl T_ zt
 have F:=C;have X:=U.len;have S:(Int.toNat ((List.length L:Int) - 1 - (k:Int)))<M.length:=by omega
 obtain⟨d,x⟩:∃ P,M[(Int.toNat ((List.length L:Int) - 1 - (k:Int)))]? = some P:=⟨_,yaa_ S⟩;have R:k<M.length:=by omega
 obtain⟨h,m⟩:∃ P,M[k]? = some P:=⟨_,yaa_ R⟩;refine Zz 7 ?_;refine ak_ ([]) zk ?_;refine D_ 6 [0,1,2,3,4,5,6,8,9,10] zk zs (Zz 6 ?_);refine M_ rfl (be_ e aZ_ ag_ rfl rfl zaa_ zaa_) rfl (Zz 2 ?_);refine M_ rfl (be_ e aZ_ ag_ rfl rfl zaa_ zaa_) rfl (bs_ ?_);refine gL_ 7 11 rfl rfl zk ?_ ?_
 .refine e_ (cw_ e T_ aQ_ rfl (w_ eo_ x 0 _ rfl)) rfl (Zz 3 ?_)
  refine p_ 11 rfl zk (e_ (cw_ e T_ aQ_ rfl (w_ eo_ m 0 _ rfl)) rfl (Zz 3 ?_));refine D_ 3 [12] zk zs (M_ rfl (be_ e aZ_ ag_ rfl rfl zaa_ zaa_) rfl (bs_ (p_ 13 rfl zk (ef_ (k:=(k:Int).toNat*1+0) e T_ ag_ rfl rfl zaa_ rfl rfl λK C=>?_))));have I:=(gR_ fn_ 1 eo_ M k 0 h d (iv_ d) m zae_ rfl).trans (yae_ _ (rfl));have A:at_ 3 1 v (List.set M k d).length (List.flatMap fn_ (List.set M k d)) K:=by rw[<-I,show List.length (List.set M k d)=M.length from (ybs_ ..)];exact C
  refine A_ dk_ (Zz 3 ?_);refine p_ 14 rfl zk ?_;have G:(List.set M k d)[(Int.toNat ((List.length L:Int) - 1 - (k:Int)))]? = some d:=by rw[ydp_ zaa_];exact x
  have Q:(Int.toNat ((List.length L:Int) - 1 - (k:Int)))<List.length (List.set M k d):=by rw[ybs_];omega
  refine e_ (be_ A aZ_ ag_ rfl rfl zaa_ zaa_) rfl (Zz 3 ?_);refine p_ 15 rfl zk (ef_ (k:=((Int.toNat ((List.length L:Int) - 1 - (k:Int))):Int).toNat*1+0) A T_ ag_ rfl rfl zaa_ rfl rfl λB N=>?_);have J:=(gR_ fn_ 1 eo_ (List.set M k d) (Int.toNat ((List.length L:Int) - 1 - (k:Int))) 0 d h (iv_ h) G zae_ rfl).trans (yae_ _ (rfl));have E:at_ 3 1 v (List.length (List.set (List.set M k d) (Int.toNat ((List.length L:Int) - 1 - (k:Int))) h)) (List.flatMap fn_ (List.set (List.set M k d) (Int.toNat ((List.length L:Int) - 1 - (k:Int))) h)) B:=by rw[<-J,show List.length (List.set (List.set M k d) (Int.toNat ((List.length L:Int) - 1 - (k:Int))) h)=List.length (List.set M k d) from (ybs_ ..)];exact N
  exact md_
 refine e_ (cw_ e T_ aQ_ rfl (w_ eo_ m 0 _ rfl)) rfl (Zz 3 ?_);refine p_ 7 rfl zk (e_ (cw_ e T_ aQ_ rfl (w_ eo_ x 0 _ rfl)) rfl (Zz 3 ?_));refine D_ 3 [12] zk zs (M_ rfl (be_ e aZ_ ag_ rfl rfl zaa_ zaa_) rfl (bs_ (p_ 13 rfl zk (ef_ (k:=(k:Int).toNat*1+0) e T_ ag_ rfl rfl zaa_ rfl rfl λK N=>?_))));have I:=(gR_ fn_ 1 eo_ M k 0 h d (iv_ d) m zae_ rfl).trans (yae_ _ (rfl));have A:at_ 3 1 v (List.set M k d).length (List.flatMap fn_ (List.set M k d)) K:=by rw[<-I,show List.length (List.set M k d)=M.length from (ybs_ ..)];exact N
 refine A_ dk_ (Zz 3 ?_);refine p_ 14 rfl zk ?_;have G:(List.set M k d)[(Int.toNat ((List.length L:Int) - 1 - (k:Int)))]? = some d:=by rw[ydp_ zaa_];exact x
 have Q:(Int.toNat ((List.length L:Int) - 1 - (k:Int)))<List.length (List.set M k d):=by rw[ybs_];omega
 refine e_ (be_ A aZ_ ag_ rfl rfl zaa_ zaa_) rfl (Zz 3 ?_);refine p_ 15 rfl zk (ef_ (k:=((Int.toNat ((List.length L:Int) - 1 - (k:Int))):Int).toNat*1+0) A T_ ag_ rfl rfl zaa_ rfl rfl λB T=>?_);have J:=(gR_ fn_ 1 eo_ (List.set M k d) (Int.toNat ((List.length L:Int) - 1 - (k:Int))) 0 d h (iv_ h) G zae_ rfl).trans (yae_ _ (rfl));have E:at_ 3 1 v (List.length (List.set (List.set M k d) (Int.toNat ((List.length L:Int) - 1 - (k:Int))) h)) (List.flatMap fn_ (List.set (List.set M k d) (Int.toNat ((List.length L:Int) - 1 - (k:Int))) h)) B:=by rw[<-J,show List.length (List.set (List.set M k d) (Int.toNat ((List.length L:Int) - 1 - (k:Int))) h)=List.length (List.set M k d) from (ybs_ ..)];exact T
 exact md_
def b2C (e:Bool×Bool):List Value:=[.bool e.1,.bool e.2]
theorem lh_ (e:Bool×Bool):(b2C e).length=2:=rfl
structure SeenI (W:List Wy) (B:List (Bool×Bool)) (n:Nat):Prop where
  len:B.length=n
  at':∀ r,r<n->B[r]? = some (nb_ W r false,nb_ W r true)
theorem qg_ (W:List Wy) (w:Wy) (r:Nat) (b:Bool):nb_ (W++[w]) r b=(nb_ W r b||(w.role==r&&w.strict==b)):=by simp[nb_]
theorem SeenI.push {W:List Wy} {B:List (Bool×Bool)} {n r:Nat} {b:Bool} {bf m:Nat} {u:Bool×Bool} (h:SeenI W B n) (x:B[r]? = some u):SeenI (W++[⟨r,b,bf,m⟩]) (B.set r (if b then (u.1,true) else (true,u.2))) n:=by
 have v:=(yac_.1 x).1;refine⟨by rw[ybs_,h.len],λq y=>?_⟩;have d:=h.at' q y;rw[qg_,qg_,ybZ_]
 by_cases e:r=q
 .subst e
  rw[yao_ rfl,yao_ v];rw[x]at d;simp only[yak_]at d;subst d;cases b<;>simp
 rw[yag_ e,d];have:(r==q)=false:=by simp[e]
 simp[this]
theorem SeenI.init {n s:Nat} (h:s<n):SeenI [⟨s,false,0,0⟩] (List.set (List.replicate n (false,false)) s (true,false)) n:=by
  have e:SeenI [] (List.replicate n (false,false)) n:=⟨ydk_,λr q=>by rw[ycD_,yao_ q];rfl⟩;have d:(List.replicate n (false,false))[s]? = some (false,false):=by rw[ycD_,yao_ h]
  have:=e.push (b:=false) (bf:=0) (m:=0) d;simpa using this
def CirR (G:List (List (Nat×Bool))) (start most:Nat) (L:List Int) (ad:Ao) (cap:Nat):Prop :=
  (L=[]/\ad=none/\cap=0/\∀ (n:Nat) (f:Nat->Nat) (c:Nat->Bool),Clw (gE G) n f c->f 0=start->most<=n)\/
  (ad≠none/\(∃ n,Clo (gE G) n)/\(∀ x∈L,0<=x/\x<(G.length:Int))/\L.length<=2*G.length+1)
theorem iz_ {P:Program} {N:Nf} {fr:Fr} {H:Hp} {Γ:List Fct} {t e ty:TypeId} {x y:Operand} {b k i:Nat} (h:∀ w,(underlying t).run P w=.ok (.array 2 e) w) (m:∀ w,(sizeOf e).run P w=.ok 1 w) (q:Fr.ev fr x=some (zp_ b k)) (d:Fr.ev fr y=some (iv_ i)) (hi:i<2) :
    Yld P N fr H Γ (.indexAddr t x y) ty (.pointer (some ⟨b,k+i,none⟩)):=by
  have:=dE_ (P:=P) (N:=N) (fr:=fr) (H:=H) (Γ:=Γ) (ty:=ty) h m q d zaa_ zaa_;rwa [ydv_,ycK_]at this
theorem at_.lit {e:TypeId} {sz b:Nat} {xs:List Value} {n:Nat} (hl:xs.length=n*sz) (d:n<=maxLen):at_ e sz (.slice (some ⟨b,0,none⟩) n n) n xs [(b,.cells xs.toArray e (0,0))] :=
  ⟨hl,.inr ⟨b,n,xs.toArray,rfl,rfl,yaj_ _,d,by simpa using hl,by rw[<-hl];simp⟩⟩
theorem mc_ {G:Prop} (h:G:=by
 have Z:=U;refine Zz 8 ?_;exact u_ ⟨(k+1,a4,N,K,O,I,a5),(J.skip G hGw S (λq=>by have F:=hcll;rw[q.2]at F;simp[q.1]at F) (by rw[V];have F:=Z;rw[hbe]at F;exact F)),M,G,a1,A,C⟩ zab_ zl (l_ (c_ d_) (l_ (c_ d_) (F_ (c_ z_) B_))) zh):G:=h
theorem zP_ (R:List Str) (rad:Ao) (rcap:Nat) (X:List Grw) (a3:Ao) (a7 d most:Nat) (hlen:X.length=R.length) (hs:d<X.length) (hto:∀ (i:Nat) (l:List (Nat×Bool)),(X.map Grw.st)[i]? = some l->∀ s∈l,s.1<((X.map Grw.st)).length) (hXl:X.length<=100000) (hrows:∀ y∈X,y.st.length<=100000000) (hmost:most<=200000):Tri prog 132 #[.agg #[.slice rad R.length rcap,.slice a3 X.length a7],iv_ d,iv_ most] [] [ac_ rad (R.flatMap al_),ac_ a3 (X.flatMap Grw.cells),id_ X] (λy:{y:List Int×Ao×Nat // CirR (X.map Grw.st) d most y.1 y.2.1 y.2.2/\y.1.length<=y.2.2/\y.2.2<=maxLen/\(y.2.1=none->y.2.2=0)}=>.slice y.1.2.1 y.1.1.length y.1.2.2) (λ_=>[]) (λy=>[ac_ y.1.2.1 (y.1.1.flatMap fn_)]):=by
 refine i_ func132 rfl rfl ntmps132 rfl λv_1=>?_;refine Zz 2 ?_;refine P_ rfl rfl λa2=>Zz 3 ?_
 refine lr_ (Zz 3 ?_);refine e_ (C_ qG_ rfl rfl) rfl (O_ ed_ gg_ pv_ rfl rfl rfl rfl rfl rfl λb_2=>Zz 4 ?_);let Qu:Hp:=[(b_2,.cells #[iv_ d,.bool false,iv_ (0:Int),iv_ (0:Int)] 256 (0,0))];have hqW:at_ 256 4 (.slice (some ⟨b_2,0,none⟩) 1 1) (List.length [(Wy.mk d false 0 0)]) (List.flatMap wyC [(Wy.mk d false 0 0)]) Qu:=at_.lit rfl zae_;refine A_ (H':=(Qu++((a2,.cells #[.slice rad R.length rcap,.slice a3 X.length a7] 184 (0,0))::[]))) (List.Perm.refl _) (Zz 4 ?_);refine sB_ (n:=R.length) (by':=2) underlying258 (z:=.agg #[.bool false,.bool false]) zk rfl zae_ rfl rfl zaa_ zaq_ rfl λsvB HrB hrB=>?_;have hqB:at_ 259 2 svB (List.replicate R.length (false,false)).length (List.flatMap b2C (List.replicate R.length (false,false))) HrB:=by rw[ydk_,<-rL_ b2C];exact hrB
 have hzl:List.length (List.replicate R.length (false,false))=R.length:=ydk_;have hz_1:(List.replicate R.length (false,false))[d]? = some (false,false):=by rw[ycD_,yao_ zaa_]
 refine Zz 3 ?_;refine A_ (bc_ (j_ aU_)) (Zz 4 ?_);refine e_ (be_ hqB jL_ yg_ rfl rfl zaa_ zaa_) rfl (e_ (iz_ (i:=0) jK_ cF_ rfl rfl zae_) rfl (ef_ (k:=(d:Int).toNat*2+0) hqB zp cF_ rfl rfl zaa_ rfl rfl λHr_1 hr_1=>?_));have hs_1:=(gR_ b2C 2 lh_ (List.replicate R.length (false,false)) d 0 (false,false) (true,false) (.bool true) hz_1 zae_ rfl).trans (yae_ _ (rfl));have hq_1:at_ 259 2 svB (List.set (List.replicate R.length (false,false)) d (true,false)).length (List.flatMap b2C (List.set (List.replicate R.length (false,false)) d (true,false))) Hr_1:=by rw[<-hs_1,show List.length (List.set (List.replicate R.length (false,false)) d (true,false))=List.length (List.replicate R.length (false,false)) from (ybs_ ..)];exact hr_1
 refine Zz 3 ?_;refine lt_ (Zz 2 ?_);refine A_ (bc_ (j_ d_)) (Zz 6 ?_);refine H_ (ι:={y:Nat×List Wy×List (Bool×Bool)×Value×Hp×Value×Hp // BI (X.map Grw.st) d y.2.1 y.1 0/\SeenI y.2.1 y.2.2.1 X.length/\y.1<=List.length y.2.1/\zR 256 4 wyC y.2.2.2.1 y.2.1 y.2.2.2.2.1/\zR 259 2 b2C y.2.2.2.2.2.1 y.2.2.1 y.2.2.2.2.2.2}) (λy=>[(1,iv_ d),(2,iv_ most),(3,zp_ a2 0),(6,.slice none 0 0),(7,y.1.2.2.2.1),(8,y.1.2.2.2.2.2.1),(9,iv_ y.1.1)]) (λy=>((a2,.cells #[.slice rad R.length rcap,.slice a3 X.length a7] 184 (0,0))::(y.1.2.2.2.2.1++y.1.2.2.2.2.2.2))) (λy=>[ac_ rad (R.flatMap al_),ac_ a3 (X.flatMap Grw.cells),id_ X]) (λy=>2*X.length - y.1.1) ⟨((0:Nat),[(Wy.mk d false 0 0)],(List.set (List.replicate R.length (false,false)) d (true,false)),(.slice (some ⟨b_2,0,none⟩) 1 1),[(b_2,.cells #[iv_ d,.bool false,iv_ (0:Int),iv_ (0:Int)] 256 (0,0))],svB,Hr_1),BI.init (by rw[yaF_];exact hs),(by rw[hlen];exact SeenI.init zaa_),zaj_,hqW,hq_1⟩ zl zp zh ?_;rintro ⟨⟨a,W,Bl,K,O,I,a5⟩,hI,hSn,ha,A,C⟩;dsimp only at hI hSn ha A C ⊢;refine Zz 5 ?_;refine e_ (cv_ A ed_ rfl) rfl ?_;refine Zi 0 (λhr_1=>?_) λhr_1=>?_
 .refine Zz 12 ?_
  exact ab_ results132 ⟨([],none,0),.inl ⟨rfl,rfl,rfl,λn f c hc hf=>hI.none (λw hw=>by have:=(yac_.1 hw).1;omega) hto hc hf⟩,by simp[maxLen]⟩ rfl g_ (λv _ h=>⟨.inl rfl,trivial⟩)
 have hlw_1:a<W.length:=by omega
 obtain⟨E,a8⟩:∃ B,W[a]? = some B:=⟨_,yaa_ hlw_1⟩;have hrole:=hI.role a E a8;rw[yaF_]at hrole;have hmny:=hI.many a E a8;have hWl:=hI.len;rw[yaF_]at hWl;have hly_1:(Wy.role E)<X.length:=hrole;obtain⟨H,hy_1⟩:∃ B,X[(Wy.role E)]? = some B:=⟨_,yaa_ hly_1⟩;have hmy_1:H∈X:=yad_ hy_1;have hGw:(X.map Grw.st)[Wy.role E]? = some (Grw.st H):=by rw[yaH_,hy_1];rfl
 have hyl:=hrows H hmy_1;refine Zz 11 ?_;refine e_ (be_ A ed_ gg_ rfl rfl zaa_ zaa_) rfl (e_ (cS_ A zp isAgg256 gg_ rfl (nh_ _) zae_ (w_ nh_ a8)) rfl (x_ pv_ rfl λb_3=>n_ 0 gg_ rfl rfl rfl rfl rfl rfl (Zz 7 ?_)));refine e_ (ao_ (aC_ rfl rfl rfl (bq_ zaa_ zaa_)) (show _=iv_ ((Wy.many E+1:Nat):Int) from yae_ _ zaa_)) rfl (Zi 1 (λhr_2=>?_) λhr_2=>?_)
 .refine Zz 18 ?_
  let Pu:Nat×Obj:=(b_3,.cells #[iv_ (Wy.role E:Int),.bool (Wy.strict E),iv_ (Wy.before E:Int),iv_ (Wy.many E:Int)] 256 (0,0));refine H_ (ι:={y:Nat×List Wy×List (Bool×Bool)×Value×Hp×Value×Hp // BI (X.map Grw.st) d y.2.1 a y.1/\SeenI y.2.1 y.2.2.1 X.length/\y.2.1[a]? = some E/\y.1<=List.length (Grw.st H)/\zR 256 4 wyC y.2.2.2.1 y.2.1 y.2.2.2.2.1/\zR 259 2 b2C y.2.2.2.2.2.1 y.2.2.1 y.2.2.2.2.2.2}) (λy=>[(1,iv_ d),(2,iv_ most),(3,zp_ a2 0),(6,.slice none 0 0),(7,y.1.2.2.2.1),(8,y.1.2.2.2.2.2.1),(9,iv_ a),(10,zp_ b_3 0),(46,.slice (Grw.ad H) (Grw.st H).length (Grw.cap H)),(47,iv_ (List.length (Grw.st H):Int)),(48,iv_ y.1.1)]) (λy=>(Pu::((a2,.cells #[.slice rad R.length rcap,.slice a3 X.length a7] 184 (0,0))::(y.1.2.2.2.2.1++y.1.2.2.2.2.2.2)))) (λy=>[ac_ rad (R.flatMap al_),ac_ a3 (X.flatMap Grw.cells),id_ X]) (λy=>List.length (Grw.st H) - y.1.1) ⟨((0:Nat),W,Bl,K,O,I,a5),hI,hSn,a8,zaa_,A,C⟩ zl zp zh ?_;rintro ⟨⟨k,a4,N,K,O,I,a5⟩,J,M,G,hk,A,C⟩;dsimp only at J M G hk A C ⊢;refine Zi 2 (λhr_3=>?_) λhr_3=>?_
  .refine Zz 8 ?_
   refine e_ (ao_ (aC_ rfl rfl rfl (bq_ zaa_ zaa_)) (show _=iv_ ((a+1:Nat):Int) from yae_ _ zaa_)) rfl (Zz 3 ?_);exact u_ ⟨(a+1,a4,N,K,O,I,a5),J.next G hGw zaa_,M,(by have:=(yac_.1 G).1;dsimp only;omega),A,C⟩ (by have q_1:=J.len;have q_2:=(yac_.1 G).1;rw[yaF_]at q_1;dsimp only;omega) zl (l_ (c_ d_) (F_ (c_ z_) B_)) zh
  have a1:k<List.length (Grw.st H):=by omega
  obtain⟨B,S⟩:∃ B,(Grw.st H)[k]? = some B:=⟨_,yaa_ a1⟩;have hme_1:B∈(Grw.st H):=yad_ S;have b0:=hto _ _ hGw B hme_1;have hto_2:Prod.fst B<X.length:=by have q:=b0;rw[yaF_]at q;exact q
  have hWl_1:=J.len;rw[yaF_]at hWl_1;have hbl:=M.len;have hal:=(yac_.1 G).1;have hbv_1:=M.at' B.1 hto_2;obtain⟨bv,hbv,hbe⟩:∃ bv,N[Prod.fst B]? = some bv/\bv=(nb_ a4 B.1 false,nb_ a4 B.1 true):=⟨_,hbv_1,rfl⟩;refine Zz 10 ?_;refine e_ (Z_ runUnderlying248 sizeOf252 rfl rfl (λv _ h=>aA_ (n:=2) oQ_ zae_ (by exact (h.2.2.1 H hmy_1)) S) zaa_ zai_) rfl ?_;refine e_ (am_ (ad:=(Grw.ad H)) (us:=te_ B) isAgg252 sizeOf252 rfl (λv _ h=>by exact (h.2.2.1 H hmy_1)) (oQ_ _) (w_ oQ_ S)) rfl (x_ zeroValue252 rfl λb_4=>n_ 0 sizeOf252 rfl rfl rfl rfl rfl rfl (Zz 5 ?_));refine E_ (aX_ 1 zb_ rfl rfl rfl) rfl λr_1 hr_4=>Zz 1 ?_
  refine aq_ 3 (((Wy.strict E))||(B.2)) (λr=>[(1,iv_ d),(2,iv_ most),(3,zp_ a2 0),(6,.slice none 0 0),(7,K),(8,I),(9,iv_ a),(10,zp_ b_3 0),(46,.slice (Grw.ad H) (Grw.st H).length (Grw.cap H)),(47,iv_ (List.length (Grw.st H):Int)),(48,iv_ k),(12,zp_ b_4 0),(57,.bool r)]) ?_ λr_2 a9=>?_
  .cases r_1
   .have a0:=hr_4
    refine Zz 3 ?_;refine E_ (aX_ 0 zb_ rfl rfl rfl) rfl λr_3 P=>Zz 3 ?_
    exact met (zm (jof a0 P))
   have a0:=hr_4;refine Zz 5 ?_;exact met ⟨rfl,rfl,rfl,rfl,rfl,rfl,rfl,rfl,rfl,rfl,rfl,rfl,(s_ rfl (jot a0)),trivial⟩
  refine Zz 9 ?_;refine E_ (bz_ rfl rfl) rfl λr_3 P=>Zz 1 ?_
  refine aq_ 2 ((((Prod.fst B:Nat):Int)==(d:Int))&&((((Wy.strict E))||(B.2)))) (λr=>[(1,iv_ d),(2,iv_ most),(3,zp_ a2 0),(6,.slice none 0 0),(7,K),(8,I),(9,iv_ a),(10,zp_ b_3 0),(46,.slice (Grw.ad H) (Grw.st H).length (Grw.cap H)),(47,iv_ (List.length (Grw.st H):Int)),(48,iv_ k),(12,zp_ b_4 0),(13,.bool r_2),(64,.bool r)]) ?_ λr_4 hr_7=>?_
  .cases r_3
   .have a0:=P
    replace P:=znb P;refine Zz 4 ?_;exact met ⟨rfl,rfl,rfl,rfl,rfl,rfl,rfl,rfl,rfl,rfl,rfl,rfl,rfl,(s_ rfl (jaf a0)),trivial⟩
   have a0:=P;replace P:=zeb P;refine Zz 5 ?_;exact met ⟨rfl,rfl,rfl,rfl,rfl,rfl,rfl,rfl,rfl,rfl,rfl,rfl,rfl,(s_ rfl (jat a0 a9)),trivial⟩
  refine Zz 2 ?_;cases r_4
  .have hcll:=hr_7
   refine Zz 14 ?_;cases r_2
   .have V:=a9
    refine Zz 10 ?_;refine e_ (be_ C jL_ yg_ rfl rfl zaa_ zaa_) rfl (e_ (iz_ (i:=0) jK_ cF_ rfl rfl zae_) rfl (E_ (cw_ C (c_ (c_ (c_ aU_))) zb_ rfl (w_ lh_ hbv 0 _ rfl)) rfl λr_5 U=>Zz 2 ?_));cases r_5
    .have Z:=U
     refine Zz 9 ?_;refine e_ (be_ C jL_ yg_ rfl rfl zaa_ zaa_) rfl (e_ (iz_ (i:=0) jK_ cF_ rfl rfl zae_) rfl (ef_ (k:=((Prod.fst B:Nat):Int).toNat*2+0) C (c_ (c_ (c_ aU_))) cF_ rfl rfl zaa_ rfl rfl λQ hr_2=>?_));have hs_2:=(gR_ b2C 2 lh_ N (Prod.fst B:Nat) 0 bv (true,Prod.snd bv) (.bool true) hbv zae_ rfl).trans (yae_ _ (rfl));have Y:at_ 259 2 I (List.length (List.set N (Prod.fst B:Nat) (true,Prod.snd bv))) (List.flatMap b2C (List.set N (Prod.fst B:Nat) (true,Prod.snd bv))) Q:=by rw[<-hs_2,show List.length (List.set N (Prod.fst B:Nat) (true,Prod.snd bv))=N.length from (ybs_ ..)];exact hr_2
     refine Zz 2 ?_;refine A_ (Y_ (j_ d_) (Y_ (j_ d_) (bc_ (j_ d_)))) (Zz 8 ?_);refine e_ (ao_ (aC_ rfl rfl rfl (bq_ zaa_ zaa_)) (show _=iv_ ((Wy.many E+1:Nat):Int) from yae_ _ zaa_)) rfl (e_ (C_ qG_ rfl rfl) rfl (O_ ed_ gg_ pv_ rfl rfl rfl rfl rfl rfl λb_5=>?_));refine aj_ (news:=List.flatMap wyC [(Wy.mk (Prod.fst B:Nat) false a (Wy.many E+1:Nat))]) zt_ A rfl rfl zp rfl (aL_ 0 rfl) (λu hu=>az_ uW_ hu) zam_ zap_ rfl λT Hr_3 hr_3=>?_;have hq_3:=zsa hr_3;refine Zz 3 ?_;refine A_ (Y_ (j_ d_) (Y_ (j_ d_) (Y_ (j_ d_) (bc_ (j_ d_))))) (Zz 5 ?_);exact u_ ⟨(k+1,(a4++[(Wy.mk (Prod.fst B:Nat) false a (Wy.many E+1:Nat))]),(List.set N (Prod.fst B:Nat) (true,Prod.snd bv)),T,Hr_3,I,Q),zaO_,(M.push (b:=false) (bf:=a) (m:=Wy.many E+1) hbv),zby_,a1,hq_3,Y⟩ zab_ zl (l_ (c_ (c_ d_)) (l_ (c_ (c_ d_)) (F_ (c_ (c_ z_)) (c_ B_)))) zh
    exact mc_
   have V:=a9;refine Zz 12 ?_;refine e_ (be_ C jL_ yg_ rfl rfl zaa_ zaa_) rfl (e_ (iz_ (i:=1) jK_ cF_ rfl rfl zae_) rfl (E_ (cw_ C (c_ (c_ (c_ aU_))) zb_ rfl (w_ lh_ hbv 1 _ rfl)) rfl λr_5 U=>Zz 2 ?_));cases r_5
   .have Z:=U
    refine Zz 9 ?_;refine e_ (be_ C jL_ yg_ rfl rfl zaa_ zaa_) rfl (e_ (iz_ (i:=1) jK_ cF_ rfl rfl zae_) rfl (ef_ (k:=((Prod.fst B:Nat):Int).toNat*2+1) C (c_ (c_ (c_ aU_))) cF_ rfl rfl zaa_ rfl rfl λQ hr_4=>?_));have hs_2:=(gR_ b2C 2 lh_ N (Prod.fst B:Nat) 1 bv (Prod.fst bv,true) (.bool true) hbv zae_ rfl).trans (yae_ _ (rfl));have Y:at_ 259 2 I (List.length (List.set N (Prod.fst B:Nat) (Prod.fst bv,true))) (List.flatMap b2C (List.set N (Prod.fst B:Nat) (Prod.fst bv,true))) Q:=by rw[<-hs_2,show List.length (List.set N (Prod.fst B:Nat) (Prod.fst bv,true))=N.length from (ybs_ ..)];exact hr_4
    refine Zz 2 ?_;refine A_ (Y_ (j_ d_) (Y_ (j_ d_) (bc_ (j_ d_)))) (Zz 8 ?_);refine e_ (ao_ (aC_ rfl rfl rfl (bq_ zaa_ zaa_)) (show _=iv_ ((Wy.many E+1:Nat):Int) from yae_ _ zaa_)) rfl (e_ (C_ qG_ rfl rfl) rfl (O_ ed_ gg_ pv_ rfl rfl rfl rfl rfl rfl λb_5=>?_));refine aj_ (news:=List.flatMap wyC [(Wy.mk (Prod.fst B:Nat) true a (Wy.many E+1:Nat))]) zt_ A rfl rfl zp rfl (aL_ 0 rfl) (λu hu=>az_ uW_ hu) zam_ zap_ rfl λT Hr_3 a9=>?_;have hq_3:=zsa a9;refine Zz 3 ?_;refine A_ (Y_ (j_ d_) (Y_ (j_ d_) (Y_ (j_ d_) (bc_ (j_ d_))))) (Zz 5 ?_);exact u_ ⟨(k+1,(a4++[(Wy.mk (Prod.fst B:Nat) true a (Wy.many E+1:Nat))]),(List.set N (Prod.fst B:Nat) (Prod.fst bv,true)),T,Hr_3,I,Q),zaO_,(M.push (b:=true) (bf:=a) (m:=Wy.many E+1) hbv),zby_,a1,hq_3,Y⟩ zab_ zl (l_ (c_ (c_ d_)) (l_ (c_ (c_ d_)) (F_ (c_ (c_ z_)) (c_ B_)))) zh
   exact mc_
  have hclT:=hr_7;refine Zz 3 ?_;let Ru:Nat×Obj:=(b_4,.cells #[iv_ ((Prod.fst B:Nat):Int),.bool B.2] 252 (0,0));refine A_ (H':=(Ru::(Pu::((a2,.cells #[.slice rad R.length rcap,.slice a3 X.length a7] 184 (0,0))::(O++(a5++([]:Hp))))))) (List.Perm.cons _ (List.Perm.cons _ (List.Perm.cons _ (ybJ_ O (yds_ (yaw_ _).symm))))) ?_;refine H_ (ι:={y:Nat×List Int×Value×Hp×Value×Hp // y.1<=a/\(∀ x∈y.2.1,0<=x/\x<(List.length X:Int))/\y.2.1.length+y.1<=a/\zR 256 4 wyC y.2.2.1 a4 y.2.2.2.1/\zR 3 1 fn_ y.2.2.2.2.1 y.2.1 y.2.2.2.2.2}) (λy=>[(1,iv_ d),(2,iv_ most),(3,zp_ a2 0),(6,y.1.2.2.2.2.1),(7,y.1.2.2.1),(8,I),(9,iv_ y.1.1),(10,zp_ b_3 0),(46,.slice (Grw.ad H) (Grw.st H).length (Grw.cap H)),(47,iv_ (List.length (Grw.st H):Int)),(48,iv_ k),(12,zp_ b_4 0)]) (λy=>(Ru::(Pu::((a2,.cells #[.slice rad R.length rcap,.slice a3 X.length a7] 184 (0,0))::(y.1.2.2.2.1++y.1.2.2.2.2.2))))) (λy=>[ac_ rad (R.flatMap al_),ac_ a3 (X.flatMap Grw.cells),id_ X]) (λy=>y.1.1) ⟨(a,([]:List Int),K,O,(.slice none 0 0),([]:Hp)),(yaj_ _),zaj_,zaj_,A,(at_.nil _ _)⟩ zl zp zh ?_;rintro ⟨⟨a_1,L,K,O,sv_RL,H_RL⟩,ha_1,hLx,hLl,A,hr_RL⟩;dsimp only at ha_1 hLx hLl A hr_RL ⊢;refine Zi 4 (λU=>?_) λU=>?_
  .refine Zz 9 ?_
   refine O_ aZ_ ag_ dD_ rfl rfl rfl rfl rfl rfl λb_5=>?_;refine aj_ (news:=List.flatMap fn_ [(d:Int)]) vC_ hr_RL rfl rfl zp rfl (aL_ 0 rfl) (λu hu=>az_ sU_ hu) zam_ zap_ rfl λT Q hr_9=>?_;have Y:=zsa hr_9;refine Zz 3 ?_;refine A_ (Y_ (j_ d_) (Y_ (j_ d_) (Y_ (j_ d_) (bc_ (j_ d_))))) (Zz 3 ?_);refine f_ (wl_ (L++[(d:Int)]) T Q Y (by have:=(yac_.1 G).1;simp only[yaf_,ybF_];omega)) rfl (c_ (c_ (c_ (c_ z_)))) zt rfl λ⟨Hv_1,hv_1⟩=>?_;dsimp only;have hqL_1:at_ 3 1 T (List.length (List.reverse (L++[(d:Int)]))) (List.flatMap fn_ (List.reverse (L++[(d:Int)]))) Hv_1:=hv_1;refine Zz 4 ?_;refine A_ (Y_ (j_ d_) (Y_ (j_ d_) (Y_ (j_ d_) (bc_ (j_ d_))))) (Zz 7 ?_);refine aW_ hqL_1 (c_ (c_ (c_ (c_ z_)))) λlad lcap hlad hclad hmlad hzlad=>?_;have hln:lad≠none:=λe=>by have q:=hzlad e;have q_1:=hclad;rw[q]at q_1;simp only[List.length_reverse,yaf_,ybF_]at q_1;omega
   exact ab_ results132 ⟨((List.reverse (L++[(d:Int)])),lad,lcap),.inr ⟨hln,⟨_,J.found G hGw S (by have F:=hclT;simp only[yaq_,ycB_]at F;omega) (by have F:=hclT;simp only[yaq_]at F;exact F.2)⟩,(λx hx=>by rw[ydF_]at hx;rw[yaF_];rcases yah_.1 hx with hx|hx;exact hLx x hx;rw[yai_]at hx;subst hx;omega),(by have:=J.len;rw[yaF_]at this;simp only[List.length_reverse,yaf_,ybF_,yaF_];omega)⟩,hclad,hmlad,hzlad⟩ (fs_ rfl hlad) g_ zf
  have hlw_2:a_1<a4.length:=by have:=(yac_.1 G).1;omega
  obtain⟨b1,a6⟩:∃ B,a4[a_1]? = some B:=⟨_,yaa_ hlw_2⟩;refine Zz 11 ?_;refine e_ (be_ A ed_ gg_ rfl rfl zaa_ zaa_) rfl (Zz 1 ?_);refine e_ (cw_ A zp aQ_ rfl (w_ nh_ a6 0 _ rfl)) rfl (O_ aZ_ ag_ dD_ rfl rfl rfl rfl rfl rfl λb_5=>?_);refine aj_ (news:=List.flatMap fn_ [(Wy.role b1:Int)]) vC_ hr_RL rfl rfl zp rfl (aL_ 0 rfl) (λu hu=>az_ sU_ hu) zam_ zap_ rfl λT Q P=>?_;have Y:=zsa P;refine Zz 3 ?_;refine A_ (Y_ (j_ d_) (Y_ (j_ d_) (Y_ (j_ d_) (bc_ (j_ d_))))) (Zz 3 ?_);refine e_ (be_ A ed_ gg_ rfl rfl zaa_ zaa_) rfl (Zz 1 ?_);refine e_ (cw_ A zp aQ_ rfl (w_ nh_ a6 2 _ rfl)) rfl (Zz 3 ?_);exact u_ ⟨((Wy.before b1),(L++[(Wy.role b1:Int)]),K,O,T,Q),(by have:=J.bef a_1 b1 a6 zaa_;omega),(λx hx=>by rcases yah_.1 hx with hx|hx;exact hLx x hx;rw[yai_]at hx;subst hx;have:=J.role a_1 b1 a6;rw[yaF_]at this;omega),(by have:=J.bef a_1 b1 a6 zaa_;simp only[yaf_,ybF_];omega),A,Y⟩ (by have:=J.bef a_1 b1 a6 zaa_;dsimp only;omega) zl (l_ (c_ d_) (l_ (c_ d_) (l_ (c_ d_) (F_ (c_ aU_) B_)))) zh
 refine Zz 12 ?_;exact ab_ results132 ⟨([],none,0),.inl ⟨rfl,rfl,rfl,λn f c hc hf=>hI.none (λw hw=>by rw[a8]at hw;simp only[yak_]at hw;subst hw;omega) hto hc hf⟩,by simp[maxLen]⟩ rfl g_ (λv _ h=>⟨.inl rfl,trivial⟩)
theorem vL_ (x:Ax):∀ i,(x.chs i).length<=i
 | 0=>by simp[Ax.chs]
 | i+1=>by
   have:=vL_ x i;rw[Ax.chs,yaf_]
   split
   . split<;>simp<;>omega
   . simp;omega
theorem tN_ {x:Ax} (h:x.check=0):x.steps.length<=4:=by
 unfold Ax.steps
 split
 .split
  .split<;>simp
  simp
 split
 .rename_i d
  have:=(Ax.good_of h).chain d;have:=vL_ x x.roles.length;omega
 simp
theorem nP_:∀ (l:List Ax),(∀ x∈l,x.check=0)->(cX_ l).length<=4*l.length
  | [],_=>by simp[cX_]
  | x::l,h=>by
    have e:=nP_ l λy d=>h y (yaE_ _ d)
    have m:=tN_ (h x zaj_);unfold cX_ at *;rw[yaG_,yaf_,yal_];omega
theorem MmO.ksl {q:Nat} {ks:List (Str×Nat)} {S:List RSt} {H:Hp} (h:MmO q ks S H) (v:Frm ks S):ks.length<=S.length:=by
  obtain⟨es,c,E,_,hE⟩:=h
  have e:ks.map (·.1) ⊆ S.map (·.1):=λk hk=>by
    obtain⟨s,d,m⟩:=v k hk;exact yap_.2 ⟨_,m,rfl⟩
  have:=hE.nd.length_le_of_subset e;rwa [yaF_,yaF_]at this
def jc_ (G:List (List (Nat×Bool))) (i most:Nat) (L:List Int) (ad:Ao) (cap:Nat):Prop :=
  (L=[]/\ad=none/\cap=0/\most=G.length+1/\∀ (n:Nat) (f:Nat->Nat) (c:Nat->Bool),Clw (gE G) n f c->f 0<i->most<=n)\/
  (ad≠none/\most<=2*G.length+1/\(∃ n,Clo (gE G) n)/\(∀ x∈L,0<=x/\x<(G.length:Int))/\L.length<=2*G.length+1)
theorem jc_.init {G:List (List (Nat×Bool))}:jc_ G 0 (G.length+1) [] none 0:=.inl ⟨rfl,rfl,rfl,rfl,λ_ _ _ _ h=>by omega⟩
theorem jc_.skip {G:List (List (Nat×Bool))} {i most:Nat} {L M:List Int} {ad:Ao} {cap cp:Nat} (h:jc_ G i most L ad cap) (m:CirR G i most M none cp):jc_ G (i+1) most L ad cap:=by
 rcases h with⟨y,q,v,x,A⟩|h
 .rcases m with⟨_,_,_,m⟩|⟨m,_⟩
  .refine .inl ⟨y,q,v,x,λn f c d B=>?_⟩
   by_cases e:f 0=i
   .exact m n f c d e
   exact A n f c d zaa_
  exact absurd rfl m
 exact .inr h
theorem jc_.take {G:List (List (Nat×Bool))} {i most:Nat} {L M:List Int} {ad d:Ao} {cap cp:Nat} (h:jc_ G i most L ad cap) (e:CirR G i most M d cp) (y:d≠none):jc_ G (i+1) M.length M d cp:=by
 rcases e with⟨_,e,_⟩|⟨v,q,x,m⟩
 .exact absurd e y
 exact .inr ⟨v,m,q,x,m⟩
theorem jc_.none {G:List (List (Nat×Bool))} {most:Nat} {L:List Int} {cap:Nat} (h:jc_ G G.length most L none cap):∀ n,¬ Clo (gE G) n:=by
 rcases h with⟨_,_,_,q,e⟩|⟨h,_⟩
 .exact zN_ λn f c m d=>by have:=e n f c m d;omega
 exact absurd rfl h
theorem jc_.some {G:List (List (Nat×Bool))} {i most:Nat} {L:List Int} {ad:Ao} {cap:Nat} (h:jc_ G i most L ad cap) (q:ad≠Option.none):(∃ n,Clo (gE G) n)/\(∀ x∈L,0<=x/\x<(G.length:Int))/\L.length<=2*G.length+1:=by
 rcases h with⟨_,h,_⟩|⟨_,_,e,d,m⟩
 .exact absurd h q
 exact⟨e,d,m⟩
theorem jc_.most {G:List (List (Nat×Bool))} {i most:Nat} {L:List Int} {ad:Ao} {cap:Nat} (h:jc_ G i most L ad cap):most<=2*G.length+1:=by
  rcases h with⟨_,_,_,h,_⟩|⟨_,h,_⟩<;>omega
def RlR (l:List Ax) (e:Int):Prop:=(e=0/\¬ rK_ (cX_ l))\/(e=60/\rK_ (cX_ l))
theorem RlR.uniq {l:List Ax} {a b:Int} (h:RlR l a) (k:RlR l b):a=b:=by
 rcases h with⟨rfl,h⟩|⟨rfl,h⟩<;>rcases k with⟨rfl,k⟩|⟨rfl,k⟩
 .rfl
 .exact absurd k h
 .exact absurd h k
 rfl
theorem vV_ {P:Program} {N:Nf} {fr:Fr} {H:Hp} {Γ:List Fct} {ty t q e:TypeId} {x y:Operand} {ad:Ao} {m c:Nat} (A:P.underlying t=some (.slice e)) (B:Fr.ev fr x=some (.slice ad m c)) (h:Fr.ev fr y=some (.slice none 0 0)):Yld P N fr H Γ (.binOp .neq t x y q) ty (.bool (!decide (ad=none))) :=
  λa v d _ _ _ _ _=>by
    have C:decide (ad=none)=ad.isNone:=by cases ad<;>simp
    rw[C];simp[execOp,d.ev B,d.ev h,eqGuard,binOp,vA_ v.w t e ad m c A]
theorem pM_ (l:List Ax) (ad:Ao) (cap:Nat) (a1:∀ x∈l,x.ok) (hC:∀ x∈l,x.check=0) (hll:l.length<=20000):Tri prog 60 #[.slice ad l.length cap] [] [cG_ ad l,bN_] (λy:{y:Value×Int // RlR l y.2}=>.tuple #[y.1.1,iv_ y.1.2]) (λ_=>[]) (λ_=>[]):=by
 refine i_ func60 rfl rfl ntmps60 rfl λv_1=>?_;refine Zz 10 ?_;refine f_ (pL_ l ad cap a1 hC zaa_) rfl g_ zf rfl λ_=>Zz 6 ?_
 refine e_ (ao_ (cg_ rfl rfl) (show _=Value.bool false from yae_ Value.bool zae_)) rfl (Zz 8 ?_);refine f_ (AC_ l ad cap a1 hC zaa_) rfl g_ zf rfl λ⟨⟨mb,ks,Hm⟩,hM,O⟩=>?_;dsimp only;simp only[yaw_];dsimp only at hM O;have hSl:=nP_ l hC;have hkl:=MmO.ksl hM O;refine f_ (ue_ mb ks (cX_ l) Hm hM O zaa_ zaa_) rfl T_ zt rfl λ⟨⟨X,rad,rcap,E,I⟩,hG,b0,hXk,⟨hrs_1,hrs_2,hrs_3⟩,⟨hgs_1,hgs_2,hgs_3⟩⟩=>?_;dsimp only;dsimp only at hG b0 hXk;have hrl:List.length (bb_ (List.map (λp:Str×Nat=>p.1) ks))=ks.length:=by rw[yaR_,yaF_]
 have a3:List.length (X.map Grw.st)=X.length:=yaF_ ..;refine x_ zeroValue184 rfl λN=>n_ 0 sizeOf184 rfl rfl rfl rfl rfl rfl (Zz 7 ?_)
 refine e_ (ao_ (aC_ rfl rfl rfl (bq_ zaa_ zaa_)) (show _=iv_ ((List.length X+1:Nat):Int) from yae_ _ zaa_)) rfl (Zz 18 ?_);refine H_ (ι:={y:Nat×Nat×List Int×Ao×Nat // y.1<=List.length (bb_ (List.map (λp:Str×Nat=>p.1) ks))/\jc_ (X.map Grw.st) y.1 y.2.1 y.2.2.1 y.2.2.2.1 y.2.2.2.2}) (λy=>[(2,.slice none 0 0),(3,iv_ 0),(5,zp_ N 0),(6,iv_ y.1.2.1),(7,.slice y.1.2.2.2.1 y.1.2.2.1.length y.1.2.2.2.2),(26,iv_ (List.length (bb_ (List.map (λp:Str×Nat=>p.1) ks)):Int)),(27,iv_ y.1.1)]) (λy=>((N,.cells #[.slice rad (List.length (bb_ (List.map (λp:Str×Nat=>p.1) ks))) rcap,.slice E X.length I] 184 (0,0))::[])) (λy=>[ac_ y.1.2.2.2.1 (y.1.2.2.1.flatMap fn_),ac_ rad (List.flatMap al_ (bb_ (List.map (λp:Str×Nat=>p.1) ks))),ac_ E (X.flatMap Grw.cells),id_ X]) (λy=>List.length (bb_ (List.map (λp:Str×Nat=>p.1) ks)) - y.1.1) ⟨((0:Nat),(List.length X+1),([]:List Int),none,0),zaj_,(by have q:=jc_.init (G:=(X.map Grw.st));rw[a3]at q;exact q)⟩ zl d_ (λv _ h=>by exact⟨(.inl rfl),h.1,h.2.1,h.2.2.1,trivial⟩) ?_;rintro ⟨⟨i,mo,L,lad,lcap⟩,a7,U⟩;dsimp only at a7 U ⊢;refine Zi 2 (λF=>?_) λF=>?_
 .refine Zz 10 ?_
  refine E_ (ny_ (ad:=lad) underlying63 rfl rfl) rfl λa6 d=>Zz 2 ?_
  cases a6
  .replace d:=zdf d
   have a8:=U.some d;refine Zz 12 ?_;refine H_ (ι:={y:Nat×List Str×Value×Hp // y.1<=List.length L/\y.2.1.length<=y.1/\zR 9 1 al_ y.2.2.1 y.2.1 y.2.2.2}) (λy=>[(2,y.1.2.2.1),(3,iv_ 0),(5,zp_ N 0),(6,iv_ mo),(7,.slice lad L.length lcap),(26,iv_ (List.length (bb_ (List.map (λp:Str×Nat=>p.1) ks)):Int)),(27,iv_ i),(42,.slice lad L.length lcap),(43,iv_ (List.length L:Int)),(44,iv_ y.1.1)]) (λy=>((N,.cells #[.slice rad (List.length (bb_ (List.map (λp:Str×Nat=>p.1) ks))) rcap,.slice E X.length I] 184 (0,0))::y.1.2.2.2)) (λy=>[ac_ lad (L.flatMap fn_),ac_ rad (List.flatMap al_ (bb_ (List.map (λp:Str×Nat=>p.1) ks))),ac_ E (X.flatMap Grw.cells),id_ X]) (λy=>L.length - y.1.1) ⟨((0:Nat),([]:List Str),(.slice none 0 0),[]),by simp,zaj_,(at_.nil _ _)⟩ zl d_ zh ?_;rintro ⟨⟨k,C,sv_RC,H_RC⟩,Y,hCl,m⟩;dsimp only at Y hCl m ⊢;refine Zi 2 (λA=>?_) λA=>?_
   .refine Zz 14 ?_
    refine aW_ m B_ λcad ccap Z hccad hmcad hzcad=>?_;exact fP_ results60 ⟨(_,60),.inr ⟨rfl,hG.circ.2 a8.1⟩⟩ (fs_ rfl Z) rfl rfl g_ zt
   have J:k<L.length:=by omega
   obtain⟨K,a4⟩:∃ B,L[k]? = some B:=⟨_,yaa_ J⟩;have T:K∈L:=yad_ a4;have hzb:=a8.2.1 K T;rw[a3]at hzb;have V:(Int.toNat K)<List.length (bb_ (List.map (λp:Str×Nat=>p.1) ks)):=by omega
   obtain⟨rz,hrz⟩:∃ B,(bb_ (List.map (λp:Str×Nat=>p.1) ks))[(Int.toNat K)]? = some B:=⟨_,yaa_ V⟩;refine Zz 22 ?_;refine O_ o_ G_ ax_ rfl rfl rfl rfl rfl rfl λb_2=>?_;refine aj_ (news:=List.flatMap al_ [rz]) cH_ m rfl rfl zp rfl (aL_ 0 rfl) (λu hu=>az_ cm_ hu) zam_ zap_ rfl λW a2 F=>?_;refine A_ yaB_ ?_;have a5:=zsa F;refine Zz 8 ?_;exact u_ ⟨(k+1,(C++[rz]),W,a2),J,zbE_,a5⟩ zab_ zl (l_ (c_ d_) B_) zh
  replace d:=zdt d;refine Zz 8 ?_;exact fP_ results60 ⟨(.slice none 0 0,0),.inl ⟨rfl,λq=>by obtain⟨n,hn⟩:=hG.circ.1 q;exact jc_.none (by have a0:=U;rw[d,show i=List.length (X.map Grw.st) from zaa_]at a0;exact a0) n hn⟩⟩ rfl rfl rfl g_ zt
 have e:i<List.length (bb_ (List.map (λp:Str×Nat=>p.1) ks)):=by omega
 obtain⟨a6,d⟩:∃ B,(bb_ (List.map (λp:Str×Nat=>p.1) ks))[i]? = some B:=⟨_,yaa_ e⟩;refine Zz 19 ?_;refine f_ (zP_ (bb_ (List.map (λp:Str×Nat=>p.1) ks)) rad rcap X E I i mo zaa_ zaa_ hG.to zaa_ (λz hz=>by have:=b0 z hz;omega) (by have:=U.most;omega)) rfl g_ zf rfl λ⟨⟨M,S,a9⟩,H,Q,R,P⟩=>?_;dsimp only;dsimp only at H Q R P;refine Zz 6 ?_;refine E_ (vV_ (ad:=S) underlying63 rfl rfl) rfl λr_2 A=>Zz 2 ?_
 cases r_2
 .refine Zz 8 ?_
  exact u_ ⟨(i+1,mo,L,lad,lcap),e,(U.skip (by have q:=H;rw[show S=none from by simpa using A]at q;exact q))⟩ zab_ zl d_ (λ_ _ h=>h.2)
 refine Zz 14 ?_;exact u_ ⟨(i+1,M.length,M,S,a9),e,(U.take H zbd_)⟩ zab_ zl d_ zf
def qT (x w:Tre):Bool:=Con.cmp x.con w.con==0
def jS_ (t:Tre):Prop:=t.wf/\t.con.sz<=1000000
theorem Cy_ (x w:Tre) (d:jS_ x) (e:jS_ w):Tri prog 201 #[Tre.val x,Tre.val w] [] [Tre.memF x,Tre.memF w] (λ_:Unit=>.bool (qT x w)) (λ_=>[]) (λ_=>[]):=by
  refine i_ func201 rfl rfl ntmps201 rfl λy=>?_;refine Zz 2 ?_;refine P_ rfl rfl λm=>P_ rfl rfl λv=>Zz 7 ?_
  refine f_ (lK_ _ x w (yaj_ _) d.1 e.1 d.2 e.2) rfl g_ zf rfl λ_=>E_ (bz_ rfl rfl) rfl λq h=>Zz 4 ?_
  exact ab_ results201 () (s_ rfl (by rw[<-h];rfl)) g_ zt
theorem xe_ (e:List Tre) (sv:Value) (Hr:Hp) (hr:zR 171 7 Tre.cells sv e Hr) (V:∀ t∈e,jS_ t) (hl:e.length<=1000000):Tri prog 200 #[sv,.func (.func 201) #[] #[]] Hr [cP_ e] (λy:{y:Value×Hp // zR 171 7 Tre.cells y.1 (cpL qT e) y.2}=>y.1.1) (λy=>y.1.2) (λ_=>[]):=by
 refine i_ func200 rfl rfl ntmps200 rfl λv_1=>?_;refine Zz 9 ?_;refine e_ (cv_ hr aM_ rfl) rfl ?_;refine Zi 0 (λN=>?_) λN=>?_
 .refine Zz 12 ?_
  refine H_ (ι:={y:Nat×Value×Hp // y.1+1<=List.length e/\cpL qT (List.take (y.1+1) e)=List.take (y.1+1) e/\zR 171 7 Tre.cells y.2.1 e y.2.2}) (λy=>[(0,y.1.2.1),(1,.func (.func 201) #[] #[]),(5,iv_ ((y.1.1+1:Nat):Int))]) (λy=>(y.1.2.2)) (λy=>[cP_ e]) (λy=>e.length - y.1.1) ⟨((0:Nat),sv,Hr),zaa_,(by obtain⟨t_1,tl,rfl⟩:=ycj_ (show 0<e.length by omega);rfl),hr⟩ zl T_ zh ?_;rintro ⟨⟨k,A,K⟩,hk,Q,d⟩;dsimp only at hk Q d ⊢;refine Zz 5 ?_;refine e_ (cv_ d aM_ rfl) rfl ?_;refine Zi 0 (λb2=>?_) λb2=>?_
  .refine Zz 12 ?_
   have x:cpL qT e=e:=(by first|exact jA_ zaa_|(have q:=Q;rw[yab_ zaa_]at q;exact q));exact ab_ results200 ⟨(A,K),by rw[x];exact d⟩ rfl T_ zt
  refine Zz 8 ?_;have R:(k+1:Nat)<e.length:=by omega
  obtain⟨S,G⟩:∃ x,e[(k+1:Nat)]? = some x:=⟨_,yaa_ R⟩;have O:S∈e:=yad_ G;have Y:k<e.length:=by omega
  obtain⟨T,H⟩:∃ x,e[k]? = some x:=⟨_,yaa_ Y⟩;have L:T∈e:=yad_ H;refine Zz 1 ?_;refine D_ 1 [0,1,2,3,4,5,6,7,8,9] zk zs (Zz 3 ?_);refine M_ rfl (be_ d aM_ aD_ rfl rfl zaa_ zaa_) rfl (M_ rfl (cS_ d T_ hg_ aD_ rfl (Tre.cells_len _) zae_ (w_ Tre.cells_len G)) rfl (Zz 2 ?_));refine M_ rfl (ao_ (aC_ rfl rfl rfl (bq_ zaa_ zaa_)) (show _=iv_ k from yae_ _ zaa_)) rfl (M_ rfl (be_ d aM_ aD_ rfl rfl zaa_ zaa_) rfl (M_ rfl (cS_ d T_ hg_ aD_ rfl (Tre.cells_len _) zae_ (w_ Tre.cells_len H)) rfl (bs_ (p_ 10 rfl zk (bh_ (Cy_ S T (V S O) (V T L)) rfl rfl g_ (λv _ h=>by exact⟨(h.1 S O),(h.1 T L),trivial⟩) rfl λb5 W=>Zz 5 ?_)))));cases b5
  .refine Zz 5 ?_
   refine e_ (ao_ (aC_ rfl rfl rfl (bq_ zaa_ zaa_)) (show _=iv_ ((k+1+1:Nat):Int) from yae_ _ zaa_)) rfl (Zz 3 ?_);exact u_ ⟨(k+1,A,K),(by have:=R;omega),(tj_ Q H G W),d⟩ zab_ zl T_ zh
  refine Zz 5 ?_;refine e_ (kw_ (k:=(k+1:Nat)) d aM_ aD_ rfl rfl zaa_) rfl (Zz 10 ?_);refine H_ (ι:={y:List Tre×Nat×Nat×Value×Hp // CmI qT e y.1 y.2.1 (k+1+y.2.2.1+1)/\zR 171 7 Tre.cells y.2.2.2.1 y.1 y.2.2.2.2}) (λy=>[(0,y.1.2.2.2.1),(1,.func (.func 201) #[] #[]),(5,iv_ y.1.2.1),(6,svT y.1.2.2.2.1 e.length (k+1) 7),(7,iv_ ((y.1.2.2.1+1:Nat):Int))]) (λy=>(y.1.2.2.2.2)) (λy=>[cP_ e]) (λy=>e.length - y.1.2.2.1) ⟨(e,(k+1),(0:Nat),A,K),(CmI.none Q H G W),d⟩ zl T_ zh ?_;rintro ⟨⟨M,E,m,A,K⟩,J,d⟩;dsimp only at J d ⊢;have hMl:=J.len;have hpl:=J.pl;have hkp:=J.kp;refine Zz 5 ?_;refine e_ (py_ aM_ rfl) rfl ?_;refine Zi 0 (λa9=>?_) λa9=>?_
  .refine Zz 9 ?_
   refine e_ (kw_ (k:=E) d aM_ aD_ rfl rfl zaa_) rfl (op_ (k:=E) d T_ aM_ cz_ rfl rfl zae_ rfl zaa_ λa4 zs_1 hz_2 a6=>A_ dk_ (Zz 6 ?_));obtain⟨a5,I,B⟩:=zA_ (P:=prog) (k:=E) a6 zaa_ zaa_;refine e_ (B aM_ aD_ rfl rfl) rfl (Zz 4 ?_);have a3:CmI qT e M E e.length:=by have q:=J;rw[show k+1+m+1=e.length by omega]at q;exact q
   have b3:=a3.done;have a2:(M.take E).length=E:=by rw[yaD_];omega
   exact ab_ results200 ⟨(a5,a4),by show at_ 171 7 _ _ _ _;rw[<-b3,a2,<-np_ Tre.cells 7 Tre.cells_len];have q:=I;rw[ycq_ (by rw[yaD_,cr_ Tre.cells 7 Tre.cells_len];omega),ydg_,Nat.min_self]at q;exact q⟩ rfl T_ zt
  refine Zz 8 ?_;have Z:(k+1+m:Nat)<M.length:=by omega
  obtain⟨U,F⟩:∃ x,M[(k+1+m:Nat)]? = some x:=⟨_,yaa_ Z⟩;have a0:(k+1+(m+1):Nat)<M.length:=by omega
  obtain⟨C,B⟩:∃ x,M[(k+1+(m+1):Nat)]? = some x:=⟨_,yaa_ a0⟩;have b1:U∈e:=by have q:=J.rest (k+1+m) zaa_;rw[F]at q;exact yad_ q.symm
  have a8:C∈e:=by have q:=J.rest (k+1+(m+1)) zaa_;rw[B]at q;exact yad_ q.symm
  refine Zz 1 ?_;refine D_ 2 [0,1,2,3,4,5,6,7,8,9] zk zs (Zz 3 ?_);refine M_ rfl (je_ (j:=(m+1:Nat)) aM_ aD_ rfl rfl zaa_) rfl (M_ rfl (cS_ d T_ hg_ aD_ rfl (Tre.cells_len _) zae_ (w_ Tre.cells_len B)) rfl (Zz 2 ?_));refine M_ rfl (ao_ (aC_ rfl rfl rfl (bq_ zaa_ zaa_)) (show _=iv_ m from yae_ _ zaa_)) rfl (M_ rfl (je_ (j:=m) aM_ aD_ rfl rfl zaa_) rfl (M_ rfl (cS_ d T_ hg_ aD_ rfl (Tre.cells_len _) zae_ (w_ Tre.cells_len F)) rfl (bs_ (p_ 10 rfl zk (bh_ (Cy_ C U (V C a8) (V U b1)) rfl rfl g_ (λv _ h=>by exact⟨(h.1 C a8),(h.1 U b1),trivial⟩) rfl λb4 I=>Zz 3 ?_)))));refine D_ 0 [11] zk zs (M_ rfl (as_ rfl) rfl (Zz 3 ?_));cases b4
  .refine Zz 2 ?_
   have a1:E<M.length:=by omega
   obtain⟨o_1,ho_1⟩:∃ x,M[E]? = some x:=⟨_,yaa_ a1⟩;refine Zz 5 ?_;refine e_ (je_ (j:=(m+1:Nat)) aM_ aD_ rfl rfl zaa_) rfl (e_ (cS_ d T_ hg_ aD_ rfl (Tre.cells_len _) zae_ (w_ Tre.cells_len B)) rfl (e_ (be_ d aM_ aD_ rfl rfl zaa_ zaa_) rfl (om_ (k:=E*7) (us:=Tre.cells C) d T_ aD_ rfl rfl zaa_ (Tre.cells_len _) zae_ (Tre.cells_one _) λX N=>?_)));have a7:=rl_ Tre.cells 7 Tre.cells_len M E C zaa_;have b0:at_ 171 7 A (List.set M E C).length (List.flatMap Tre.cells (List.set M E C)) X:=by rw[ybs_,<-a7];exact N
   refine A_ dk_ (Zz 4 ?_);refine e_ (ao_ (aC_ rfl rfl rfl (bq_ zaa_ zaa_)) (show _=iv_ ((E+1:Nat):Int) from yae_ _ zaa_)) rfl (Zz 5 ?_);refine e_ (ao_ (aC_ rfl rfl rfl (bq_ zaa_ zaa_)) (show _=iv_ ((m+1+1:Nat):Int) from yae_ _ zaa_)) rfl (Zz 3 ?_);exact u_ ⟨((List.set M E C),E+1,m+1,A,X),(J.keep F B (by simpa using I)),b0⟩ (by have:=J.pl;have:=J.kp;dsimp only;omega) zl T_ zh
  refine Zz 5 ?_;refine e_ (ao_ (aC_ rfl rfl rfl (bq_ zaa_ zaa_)) (show _=iv_ ((m+1+1:Nat):Int) from yae_ _ zaa_)) rfl (Zz 3 ?_);exact u_ ⟨(M,E,m+1,A,K),(J.skip F B (by simpa using I)),d⟩ (by have:=J.pl;have:=J.kp;dsimp only;omega) zl T_ zh
 refine Zz 10 ?_;have x:cpL qT e=e:=(by first|exact jA_ zaa_|(have q:=Q;rw[yab_ zaa_]at q;exact q));exact ab_ results200 ⟨(sv,Hr),by rw[x];exact hr⟩ rfl T_ zt
end Go.Proofs.YtbffkokbdeppaaaGreatDoor
