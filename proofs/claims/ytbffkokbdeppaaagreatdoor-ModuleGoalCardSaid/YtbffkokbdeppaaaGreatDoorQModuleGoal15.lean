/-
  Lemmas for the law ModuleGoal (no condition).
-/
import Derived.Test.YtbffkokbdeppaaaGreatDoorQModuleGoal14
import Derived.Test.YtbffkokbdeppaaaGreatDoorRows
import Derived.Test.YtbffkokbdeppaaaGreatDoorProg
set_option linter.unusedVariables false
set_option linter.unusedSimpArgs false
set_option linter.unusedSectionVars false
set_option maxHeartbeats 1000000
namespace Go.Proofs.YtbffkokbdeppaaaGreatDoor
open Go Go.Sx Go.Proofs Tryz
attribute [local irreducible] Code.wp wpList wpAnyH
open Go.Vs
structure AL where
  l:List Ax
  ad:Ao
  cap:Nat
def AL.cells (x:AL):List Value:=[.slice x.ad x.l.length x.cap]
theorem AL.cells_len (x:AL):x.cells.length=1:=rfl
structure AL.ok (x:AL):Prop where
  len:x.l.length<=2199023255488
  ok:∀ a∈x.l,a.ok
def alF (xs:List AL):Fct where
  p v:=∀ x∈xs,(bZ_ x.ad x.l).p v
  mono:=λv v' h hp x hx=>(bZ_ x.ad x.l).mono v v' h (hp x hx)
theorem eN_ {G:Prop} (h:G:=by
 exact ac_ results52 false rfl i_ zt):G:=h
theorem md_ {G:Prop} (h:G:=by
 rintro ⟨⟨a5,B,I⟩,U,d⟩;dsimp only at U d ⊢;refine Zz 7 ?_;exact w_ ⟨(j+1,a5,(bg++[46])++P,B,I),a9,zab_,(by have:=M.roles P T;simp only[yaj_,yak_,yay_];omega),d⟩ zab_ zl (l_ e_ (l_ e_ Z_)) zh):G:=h
theorem An_ (xs:List AL) (C:Ao) (H:Nat) (e8:∀ x∈xs,AL.ok x) (hl:xs.length<=1000):Tri prog 52 #[.slice C xs.length H,i4_ 40] [] [X_ C (xs.flatMap AL.cells),alF xs] (λb:Bool=>.bool b) (λ_=>[]) (λ_=>[]):=by
 refine j_ func52 rfl rfl ntmps52 rfl λv_1=>?_;refine Zz 7 ?_;refine d_ (y_ BT_ rfl rfl) rfl (L_ rfl rfl λA=>Zz 10 ?_);refine J_ (ι:={y:Nat×Int×Int×List Str×Value×Hp // y.1<=List.length xs/\(0<=y.2.1/\0<=y.2.2.1/\y.2.2.1<=y.2.1/\y.2.1<=1000/\y.2.2.2.1.length<=1000)/\zR 9 1 aa_ y.2.2.2.2.1 y.2.2.2.1 y.2.2.2.2.2}) (λy=>[(0,.slice C xs.length H),(1,i4_ 40),(4,.bool false),(5,zp_ A 0),(6,i4_ y.1.1)]) (λy=>((A,.cells #[i4_ y.1.2.1,i4_ y.1.2.2.1,y.1.2.2.2.2.1] 164 (0,0))::y.1.2.2.2.2.2)) (λy=>[X_ C (xs.flatMap AL.cells),alF xs]) (λy=>xs.length - y.1.1) ⟨((0:Nat),0,0,([]:List Str),(.slice none 0 0),[]),by simp,(by first|exact a7|simp),(at_.nil _ _)⟩ zl e_ zh ?_;rintro ⟨⟨i,n_1,r_1,l_1,B,I⟩,f8,a7,d⟩;dsimp only at f8 a7 d ⊢;refine Zi 6 (λf2=>?_) λf2=>?_
 .refine Zi 12 (λb3=>?_) λb3=>?_
  .refine Zz 19 ?_
   exact eN_
  refine Zi 10 (λa6=>?_) λa6=>?_
  .refine Zz 13 ?_
   exact eN_
  refine Zz 11 ?_;refine d_ (cm_ d n_ rfl) rfl (ar_ rfl rfl (F_ (dN_ rfl rfl) rfl λb4 b7=>Zz 5 ?_));exact ac_ results52 b4 rfl i_ zt
 obtain⟨c1,G,hx_1,m⟩:=zge (show i<xs.length by omega);have hal:=(e8 G m).len;refine Zz 13 ?_;refine J_ (ι:={y:Nat×Int×Int×List Str×Value×Hp // y.1<=List.length (AL.l G)/\(0<=y.2.1/\0<=y.2.2.1/\y.2.2.1<=y.2.1/\y.2.1<=1000/\y.2.2.2.1.length<=1000)/\zR 9 1 aa_ y.2.2.2.2.1 y.2.2.2.1 y.2.2.2.2.2}) (λy=>[(0,.slice C xs.length H),(1,i4_ 40),(4,.bool false),(5,zp_ A 0),(6,i4_ i),(7,i4_ y.1.1)]) (λy=>((A,.cells #[i4_ y.1.2.1,i4_ y.1.2.2.1,y.1.2.2.2.2.1] 164 (0,0))::y.1.2.2.2.2.2)) (λy=>[X_ C (xs.flatMap AL.cells),alF xs]) (λy=>List.length (AL.l G) - y.1.1) ⟨((0:Nat),n_1,r_1,l_1,B,I),by simp,(by first|exact a7|simp),d⟩ zl zp zh ?_;rintro ⟨⟨k,e4,b4,f3,B,I⟩,e0,b0,d⟩;dsimp only at e0 b0 d ⊢;refine Zi 9 (λb3=>?_) λb3=>?_
 .refine Zz 11 ?_
  exact w_ ⟨(i+1,e4,b4,f3,B,I),c1,(by first|exact b0|(dsimp only;omega)),d⟩ zab_ zl zp zh
 obtain⟨d1,e,b6,E⟩:=zge (show k<List.length (AL.l G) by omega);have M:=(e8 G m).ok e E;have hrc_1:=M.cap;refine Zz 14 ?_;refine d_ (P_ aN_ I_ rfl rfl (λv _ h=>av_ (n:=16) Ax.cells_len zae_ (by exact (h.2.1 G m).1) b6) zaa_ zag_) rfl ?_;refine d_ (ak_ (ad:=(AL.ad G)) (us:=Ax.cells e) bA_ I_ rfl (λv _ h=>by exact (h.2.1 G m).1) (Ax.cells_len _) (A_ Ax.cells_len b6)) rfl (C_ aA_ rfl λK=>p_ 0 I_ rfl rfl rfl rfl rfl rfl (Zi 10 (λa6=>?_) λa6=>?_))
 .refine Zz 10 ?_
  refine d_ (cm_ d n_ rfl) rfl (ar_ rfl rfl ?_);refine Zi 0 (λb7=>?_) λb7=>?_
  .refine Zi 9 (λf7=>?_) λf7=>?_
   .refine Zz 5 ?_
    refine f_ (nl_ e M) rfl i_ (λv _ h=>by exact⟨((h.2.1 G m).2 e E),trivial⟩) rfl λ⟨bf,hbf⟩=>?_;dsimp only;refine ar_ rfl rfl (d_ (aK_ rfl) rfl (Zz 3 ?_));cases bf
    .refine Zz 7 ?_
     exact eN_
    have a3:=hbf rfl;have hfl:=a3.left;have hfr:=a3.right;refine Zz 8 ?_;refine f_ (oo_ _ e.left (yad_ _) M.left A e4 b4 f3 B I d (by have:=a3.left;have:=a3.right;omega)) rfl (l_ (c_ e_) E_) (λv _ h=>by exact⟨((h.2.1 G m).2 e E).1,trivial⟩) rfl λ⟨⟨e3,d9,f1,d5,f5⟩,b8,e6,hy1c,e7⟩=>?_;dsimp only;dsimp only at b8 e6 hy1c e7;refine Zz 2 ?_;refine u_ (S_ e_ (aW_ aJ_)) (Zz 5 ?_);refine f_ (oo_ _ e.right (yad_ _) M.right A e3 d9 f1 d5 f5 b8 (by have:=a3.left;have:=a3.right;omega)) rfl (l_ e_ E_) (λv _ h=>by exact⟨((h.2.1 G m).2 e E).2.1,trivial⟩) rfl λ⟨⟨X,F,a8,O,a1⟩,a4,e9,hy2c,f6⟩=>?_;dsimp only;dsimp only at a4 e9 hy2c f6;refine Zz 3 ?_;refine u_ (S_ e_ (aW_ aJ_)) (Zz 4 ?_);refine F_ (dQ_ rfl rfl) rfl λr_3 a0=>Zz 2 ?_
    let Pu:Fr:=[(0,.slice C xs.length H),(1,i4_ 40),(4,.bool false),(5,zp_ A 0),(6,i4_ i),(7,i4_ k),(8,zp_ K 0)];let Qu:Nat×Obj:=(K,.cells (Ax.cells e).toArray 30 (0,0));refine hj_ (ι:={y:Int // (X<=y/\y<=X+1)}) (λy=>Pu) (λy=>(Qu::((A,.cells #[i4_ y.1,i4_ F,O] 164 (0,0))::a1))) (λy=>[X_ C (xs.flatMap AL.cells),alF xs]) ?_ ?_
    .cases r_3
     .replace a0:=ew_ a0
      refine Zz 3 ?_;exact dh_ ⟨X,zaw_⟩ zl zp zf
     replace a0:=eu_ a0;refine Zz 10 ?_;refine p_ 0 R_ rfl rfl rfl rfl rfl rfl (Zz 2 ?_);exact dh_ ⟨(X+1),zaw_⟩ zl (l_ (c_ e_) (l_ e_ Z_)) zf
    rintro ⟨Z,c2⟩;dsimp only at c2 ⊢;refine Zz 6 ?_;refine F_ (dQ_ rfl rfl) rfl λr_4 W=>Zz 2 ?_
    refine hj_ (ι:={y:Int // (Z<=y/\y<=Z+1)}) (λy=>Pu) (λy=>(Qu::((A,.cells #[i4_ y.1,i4_ F,O] 164 (0,0))::a1))) (λy=>[X_ C (xs.flatMap AL.cells),alF xs]) ?_ ?_
    .cases r_4
     .replace W:=ew_ W
      refine Zz 3 ?_;exact dh_ ⟨Z,zaw_⟩ zl zp zf
     replace W:=eu_ W;refine Zz 10 ?_;refine p_ 1 R_ rfl rfl rfl rfl rfl rfl (Zz 2 ?_);exact dh_ ⟨(Z+1),zaw_⟩ zl zp zf
    rintro ⟨J,d2⟩;dsimp only at d2 ⊢;refine Zz 6 ?_;refine F_ (dQ_ rfl rfl) rfl λr_5 V=>Zz 2 ?_
    refine hj_ (ι:={y:List Str×Value×Hp // y.1.length<=a8.length+1/\zR 9 1 aa_ y.2.1 y.1 y.2.2}) (λy=>Pu) (λy=>(Qu::((A,.cells #[i4_ J,i4_ F,y.1.2.1] 164 (0,0))::y.1.2.2))) (λy=>[X_ C (xs.flatMap AL.cells),alF xs]) ?_ ?_
    .cases r_5
     .replace V:=ew_ V
      refine Zz 3 ?_;exact dh_ ⟨(a8,O,a1),zaw_,a4⟩ zl zp zf
     replace V:=eu_ V;refine Zz 5 ?_;refine f_ (nH_ e.role a8 A J F O a1 a4 zaa_) rfl zp zt rfl λ⟨⟨N,L,S⟩,b5,e2⟩=>?_;dsimp only;dsimp only at b5 e2;refine Zz 2 ?_;exact dh_ ⟨(N,L,S),zaw_,b5⟩ zl zp zf
    rintro ⟨⟨b9,B,I⟩,d4,d⟩;dsimp only at d4 d ⊢;refine Zz 12 ?_;refine J_ (ι:={y:Nat×List Str×Str×Value×Hp // y.1<=List.length e.roles/\y.2.1.length<=b9.length+2*y.1/\y.2.2.1.length<=140737488351300*y.1/\zR 9 1 aa_ y.2.2.2.1 y.2.1 y.2.2.2.2}) (λy=>[(0,.slice C xs.length H),(1,i4_ 40),(4,.bool false),(5,zp_ A 0),(6,i4_ i),(7,i4_ k),(8,zp_ K 0),(9,str y.1.2.2.1),(10,i4_ y.1.1)]) (λy=>(Qu::((A,.cells #[i4_ J,i4_ F,y.1.2.2.2.1] 164 (0,0))::y.1.2.2.2.2))) (λy=>[X_ C (xs.flatMap AL.cells),alF xs]) (λy=>e.roles.length - y.1.1) ⟨((0:Nat),b9,([]:Str),B,I),by simp,zai_,zai_,d⟩ zl zp zh ?_;rintro ⟨⟨j,e1,bg,B,I⟩,f0,hl_1,hbg,d⟩;dsimp only at f0 hl_1 hbg d ⊢;refine Zi 7 (λd6=>?_) λd6=>?_
    .refine Zz 11 ?_
     exact w_ ⟨(k+1,J,F,e1,B,I),d1,(by first|exact b0|(dsimp only;omega)),d⟩ zab_ zl zp zh
    obtain⟨a9,P,Y,T⟩:=zge (show j<e.roles.length by omega);have hrl_1:=M.roles P T;refine Zz 13 ?_;refine d_ (P_ n_ D_ rfl rfl (λv _ h=>av_ (n:=1) an_ zae_ (by exact ((h.2.1 G m).2 e E).2.2) Y) zaa_ zag_) rfl ?_;refine d_ (bw_ (ad:=e.ad) W_ rfl (λv _ h=>by exact ((h.2.1 G m).2 e E).2.2) (A_ an_ Y 0 _ rfl)) rfl (f_ (nH_ P e1 A J F B I d zaa_) rfl zp zt rfl λ⟨⟨N,L,S⟩,a2,d8⟩=>?_);dsimp only;dsimp only at a2 d8;refine Zz 2 ?_;refine u_ (S_ e_ (aW_ aJ_)) (Zz 3 ?_);refine d_ (cP_ rfl rfl zac_) rfl ?_;refine Zz 3 ?_;refine d_ (P_ n_ D_ rfl rfl (λv _ h=>av_ (n:=1) an_ zae_ (by exact ((h.2.1 G m).2 e E).2.2) Y) zaa_ zag_) rfl ?_;refine d_ (bw_ (ad:=e.ad) W_ rfl (λv _ h=>by exact ((h.2.1 G m).2 e E).2.2) (A_ an_ Y 0 _ rfl)) rfl (d_ (cP_ rfl rfl zac_) rfl ?_);refine Zi 6 (λd0=>?_) λd0=>?_
    .refine Zz 10 ?_
     refine hj_ (ι:={y:List Str×Value×Hp // y.1.length<=N.length+1/\zR 9 1 aa_ y.2.1 y.1 y.2.2}) (λy=>[(0,.slice C xs.length H),(1,i4_ 40),(4,.bool false),(5,zp_ A 0),(6,i4_ i),(7,i4_ k),(8,zp_ K 0),(9,str ((bg++[46])++P)),(10,i4_ j)]) (λy=>(Qu::((A,.cells #[i4_ J,i4_ F,y.1.2.1] 164 (0,0))::y.1.2.2))) (λy=>[X_ C (xs.flatMap AL.cells),alF xs]) ?_ ?_
     .refine Zz 3 ?_
      exact dh_ ⟨(N,L,S),zaw_,a2⟩ zl zp zf
     exact md_
    refine Zz 12 ?_;refine F_ (cO_ rfl rfl) rfl λr_6 Q=>Zz 3 ?_
    refine hj_ (ι:={y:List Str×Value×Hp // y.1.length<=N.length+1/\zR 9 1 aa_ y.2.1 y.1 y.2.2}) (λy=>[(0,.slice C xs.length H),(1,i4_ 40),(4,.bool false),(5,zp_ A 0),(6,i4_ i),(7,i4_ k),(8,zp_ K 0),(9,str ((bg++[46])++P)),(10,i4_ j)]) (λy=>(Qu::((A,.cells #[i4_ J,i4_ F,y.1.2.1] 164 (0,0))::y.1.2.2))) (λy=>[X_ C (xs.flatMap AL.cells),alF xs]) ?_ ?_
    .cases r_6
     .replace Q:=zdf Q
      refine Zz 3 ?_;exact dh_ ⟨(N,L,S),zaw_,a2⟩ zl zp zf
     replace Q:=zdt Q;refine Zz 4 ?_;refine f_ (nH_ ((bg++[46])++P) N A J F L S a2 zaa_) rfl zp zt rfl λ⟨⟨d7,d3,f4⟩,c0,e5⟩=>?_;dsimp only;dsimp only at c0 e5;refine Zz 2 ?_;exact dh_ ⟨(d7,d3,f4),zaw_,c0⟩ zl zp zf
    exact md_
   refine Zz 15 ?_;exact eN_
  refine Zz 21 ?_;exact eN_
 refine Zz 28 ?_;exact eN_
theorem Dz_ (xs:List AL) (e:Ao) (d:Nat) (h:∀ x∈xs,AL.ok x) (hl:xs.length<=1000):Tri prog 17 #[.slice e xs.length d] [] [X_ e (xs.flatMap AL.cells),alF xs] (λb:Bool=>.bool b) (λ_=>[]) (λ_=>[]):=by
  refine j_ func17 rfl rfl ntmps17 rfl λm=>?_;refine Zz 8 ?_;refine f_ (An_ xs e d h hl) rfl i_ zf rfl λk=>Zz 4 ?_
  exact ac_ results17 k rfl i_ zt
theorem al_two {x y:AL} {v:Vw} (h:(bZ_ x.ad x.l).p v) (e:(bZ_ y.ad y.l).p v):(alF [x,y]).p v:=λz d=>by
 rcases yal_.1 d with rfl|d
 .exact h
 rw[yam_.1 d];exact e
theorem xS_ (l:List Ax) (ad:Ao) (cap:Nat) (e:l.length<=12) (d:∀ x∈l,x.ok) (k:∀ x∈l,x.check=0) :
    Tri prog 66 #[.slice ad l.length cap] [] [bZ_ ad l,bE_] (λy:{y:Ao×Nat // (cB_ 0 l).length<=y.2/\y.2<=maxLen/\(y.1=none->y.2=0)}=>.tuple #[.slice y.1.1 (cB_ 0 l).length y.1.2,i4_ 0]) (λ_=>[]) (λy=>[X_ y.1.1 ((cB_ 0 l).flatMap Pc.cells)]):=by
  have h:=lP_ l ad cap zaa_ d;rw[kx_ e k]at h;exact h
theorem vr_ (l:List Ax) (ad:Ao) (cap:Nat) (K:∀ x∈l,x.ok) (N:∀ x∈l,x.check=0) (P:l.length<=12) (q:List Pc) (e:Ao) (d:Nat) (G:q.length<=d) (L:e=none->d=0) (hql:q.length<=100000) (V:∀ z∈q,z.sm):Tri prog 70 #[.agg #[.slice ad l.length cap],.slice e q.length d] [] [bZ_ ad l,X_ e (q.flatMap Pc.cells),bE_,kp_] (λy:{y:Cl×Int // gf_ (cB_ 0 l++q) 1073741824 y.1 y.2}=>.tuple #[y.1.1.val,i4_ y.1.2]) (λ_=>[]) (λy=>y.1.1.row):=by
  refine j_ func70 rfl rfl ntmps70 rfl λZ=>?_;refine Zz 2 ?_;refine L_ rfl rfl λb_1=>C_ zeroValue110 rfl λY=>Zz 7 ?_
  refine f_ (xS_ l ad cap P K N) rfl i_ zf rfl λ⟨⟨E,m⟩,A,F,k⟩=>?_;dsimp only;try dsimp only at A F k
  have a0:=ps_ 0 l N;refine Zz 11 ?_;refine d_ (ai_ (cq_ rfl rfl) (show _=Value.bool false from yae_ Value.bool zae_)) rfl (Zz 9 ?_);refine B_ runUnderlying143 kJ_ cl_ rfl rfl rfl rfl rfl rfl λX=>?_;refine U_ (List.flatMap PL.cells [(PL.mk (cB_ 0 l) E m),(PL.mk q e d)]) e_ rfl ?_;refine f_ ((show Tri prog 46 _ [] _ (λy:{y:Ao×Nat // (cB_ 0 l++q).length<=y.2/\y.2<=maxLen/\(y.1=none->y.2=0)}=>.slice y.1.1 (cB_ 0 l++q).length y.1.2) (λ_=>[]) (λy=>[X_ y.1.1 ((cB_ 0 l++q).flatMap Pc.cells)]) from by have h:=un_ [(PL.mk (cB_ 0 l) E m),(PL.mk q e d)] (some ⟨X,0,none⟩) 2 (λy I=>by simp only[yal_,yat_,ybd_]at I;rcases I with rfl|rfl;exact⟨A,k,by dsimp only;omega⟩;exact⟨G,L,by dsimp only;omega⟩) zai_;have eC:(hl_ [(PL.mk (cB_ 0 l) E m),(PL.mk q e d)])=cB_ 0 l++q:=(by simp[hl_]);rw[eC]at h;exact h)) rfl i_ (λv _ h=>by refine⟨h.1,λy I=>?_,trivial⟩;simp only[yal_,yat_,ybd_]at I;rcases I with rfl|rfl;exact h.2.1;exact h.2.2.2.1) rfl λ⟨⟨H,C⟩,Q,U,O⟩=>?_;dsimp only;refine f_ (all_c ((cB_ 0 l)++q) H C 1073741824 (λz S=>(yai_.1 S).elim (λS=>(pt_ l 0 zaa_ K N z S).2.2.1) (V z)) zbu_) rfl i_ zf rfl λ⟨⟨J,M⟩,B⟩=>?_;dsimp only;try dsimp only at B
  refine Zz 2 ?_;refine p_ 0 bL_ rfl rfl rfl rfl rfl rfl (Zz 4 ?_);exact dk_ ⟨(J,M),B⟩ (λaa v W T=>cf_ (us:=Cl.cells J) 0 results70 fW_ bL_ rfl rfl rfl rfl aa v W T) i_ zf
def FaR (l:List Ax) (x:Ax) (ok:Bool) (e:Int):Prop:=∃ c e2,gf_ (cB_ 0 l++x.goalP.1) 1073741824 c e2/\((e2≠0/\ok=false/\e=e2)\/(e2=0/\e=0/\ok=x.goalP.2.1.all (pA_ c.facts)))
theorem der_in {p:List Pc} {A:List Str} {y:Fc} (h:Der p A y):y.a∈A:=h.least (T:=λy=>y.a∈A) λz d=>by
  cases d with
  | r1 h=>exact h
  | r2 h=>exact h
  | r10 hx hk h=>exact h
  | r3 hx hk h=>exact h
  | r4 hx hk h h'=>exact h
  | r5 hx hk h=>exact h
  | r6 hx hk h=>exact h
  | r7 hx hk h h'=>exact h
  | r8 hx hk h h'=>exact h
  | r9 h h'=>exact h
  | r11 hx hk h=>exact h
  | r12 h h' hm hl=>exact h
  | r13 h h' hm hl=>exact h
  | r14 hx hk h h1 h2=>exact h
theorem tB_ {S:List Str} {x:Pc} (h:x∈fd_ S):x.kind=1/\x.c=[42]:=by
  grind[fd_]
theorem Da_ {p:List Pc} {S A:List Str} {y:Fc} (h:Der (p++fd_ S) A y):Der p A y:=h.least (T:=λy=>Der p A y) λz d=>by
 have k:∀ {x:Pc},x∈p++fd_ S->x.kind≠1->x∈p:=fun {x} hx hn=>(yai_.1 hx).elim id λq=>absurd (tB_ q).1 hn
 refine Der.step ?_;cases d with
 | r1 h=>exact .r1 h
 | r2 h=>exact .r2 h
 | r10 hx hk h=>exact .r10 (k hx zaa_) hk h
 | r3 hx hk h =>
   rcases yai_.1 hx with q|q
   . exact .r3 q hk h
   . rw[(tB_ q).2];exact .r2 (der_in h)
 | r4 hx hk h h'=>exact .r4 (k hx zaa_) hk h h'
 | r5 hx hk h=>exact .r5 (k hx zaa_) hk h
 | r6 hx hk h=>exact .r6 (k hx zaa_) hk h
 | r7 hx hk h h'=>exact .r7 (k hx zaa_) hk h h'
 | r8 hx hk h h'=>exact .r8 (k hx zaa_) hk h h'
 | r9 h h'=>exact .r9 h h'
 | r11 hx hk h=>exact .r11 (k hx zaa_) hk h
 | r12 h h' hm hl=>exact .r12 h h' trivial hl
 | r13 h h' hm hl=>exact .r13 h h' trivial hl
 | r14 hx hk h h1 h2=>exact .r14 (k hx zaa_) hk h h1 h2
def sig (A:List Str) (a:Str):Str:=if a∈A then a else [42]
end Go.Proofs.YtbffkokbdeppaaaGreatDoor
namespace Go.Proofs.YtbffkokbdeppaaaGreatDoor
open Go Go.Sx Go.Proofs Tryz
attribute [local irreducible] Code.wp wpList wpAnyH
open Go.Vs Go.ChangeShapes Go.WideShapes Go.ChangeAt Go.RowKit
theorem own:ownKnob Tryz.prog.godebug=none:=by kernel_rfl
def ho_ : List (String × DataW Unit) := [("math/bits.deBruijn32tab", Rows.laid_math_bits_deBruijn32tab), ("math/bits.deBruijn64tab", Rows.laid_math_bits_deBruijn64tab), ("internal/strconv.uint64pow10", Rows.laid_internal_strconv_uint64pow10), ("unicode/utf8.acceptRanges", Rows.laid_unicode_utf8_acceptRanges), ("veilstone/terms.needs", Rows.laid_veilstone_terms_needs), ("veilstone/terms.uses", Rows.laid_veilstone_terms_uses), ("veilstone/normal.uses", Rows.laid_veilstone_normal_uses), ("unicode/utf8.first", Rows.laid_unicode_utf8_first)]
theorem Au_:Kids prog (·<Tryz.prog.types.size):=kids_rows zad_ zad_
theorem full:∀ t e,t<Tryz.prog.types.size->Tryz.prog.underlying t=some (.slice e)->0<Tryz.prog.cellsOf e:=slices_full_of _ zad_
theorem nTypes:Tryz.prog.types.size=454:=by kernel_rfl
theorem tysX:Tys prog 3 4 9 25 28 26 30 22 80 69 where
  i:=o_
  b:=sF_
  s:=aB_
  ss:=iV_
  c:=⟨_,underlying28,rfl⟩
  cs:=underlying26
  a:=⟨_,underlying30,rfl⟩
  axs:=underlying22
  p:=⟨_,gi_,rfl⟩
  ps:=underlying69
  ci:=by kernel_rfl
  cb:=by kernel_rfl
  cs1:=by kernel_rfl
  css:=by kernel_rfl
  cc:=by kernel_rfl
  ccs:=by kernel_rfl
  ca:=by kernel_rfl
  cp:=by kernel_rfl
  bs:=by kernel_rfl
  bc:=by kernel_rfl
  ba:=by kernel_rfl
  bp:=by kernel_rfl
theorem ns_ {W:World} (h:laidMetH prog ho_ W):∃ T fz,W.heap[1]? = some (.cells (fy_ (H:=Unit) Rows.laid_veilstone_terms_needs).toArray T fz):=by
  rw[MakeChecks.laidMetH_plain _ _ _ zk]at h;exact kR_ Au_ (name := "veilstone/terms.needs") h (by simp [ho_]) (g := 1) (t := 315) zk zk (by simp_all) (m := 4) zk
theorem oD_ {W:World} (h:laidMetH prog ho_ W):∃ T fz,W.heap[0]? = some (.cells (fy_ (H:=Unit) Rows.laid_veilstone_terms_uses).toArray T fz):=by
  rw[MakeChecks.laidMetH_plain _ _ _ zk]at h;exact kR_ Au_ (name := "veilstone/terms.uses") h (by simp [ho_]) (g := 0) (t := 91) zk zk (by simp_all) (m := 4) zk
theorem nt_ {W:World} (h:laidMetH prog ho_ W):∃ T fz,W.heap[3]? = some (.cells (fy_ (H:=Unit) Rows.laid_veilstone_normal_uses).toArray T fz):=by
  rw[MakeChecks.laidMetH_plain _ _ _ zk]at h;exact kR_ Au_ (name := "veilstone/normal.uses") h (by simp [ho_]) (g := 3) (t := 326) zk zk (by simp_all) (m := 4) zk
theorem hB_ {W:World} (h:laidMetH prog ho_ W):∃ T fz,W.heap[6]? = some (.cells (fy_ (H:=Unit) Rows.laid_internal_strconv_uint64pow10).toArray T fz):=by
  rw[MakeChecks.laidMetH_plain _ _ _ zk]at h;exact kR_ Au_ (name := "internal/strconv.uint64pow10") h (by grind[ho_]) (g := 6) (t := 437) zk zk (by simp_all) (m := 4) zk
theorem rz_ {W:World} {g:Nat} {l:List Value} {d:List Value} (h:∃ T fz,W.heap[g]? = some (.cells l.toArray T fz)) (e:l=d):bW_ (vw W) (some ⟨g,0,none⟩) d:=by
  obtain⟨T,fz,h⟩:=h;subst e;exact .inr ⟨g,0,_,T,fz,rfl,(yaA_.1 h).1,h,λj x k=>by grind⟩
theorem BM_ {W:World} (h:laidMetH prog ho_ W):bE_.p (vw W):=by
  refine⟨rz_ (ns_ h) zk,rz_ (oD_ h) zk,trivial,?_⟩;obtain⟨T,fz,d⟩:=hB_ h;refine⟨trivial,(yaA_.1 d).1,T,fz,?_⟩;rw[show (Lib.pow10Tab.map λz=>Value.int .u64 z)=fy_ (H:=Unit) Rows.laid_internal_strconv_uint64pow10 by kernel_rfl];exact d
theorem BN_ {W:World} (h:laidMetH prog ho_ W):kp_.p (vw W):=rz_ (nt_ h) zad_
end Go.Proofs.YtbffkokbdeppaaaGreatDoor
namespace Go.Proofs.YtbffkokbdeppaaaGreatDoor
open Go Go.Sx Go.Proofs Tryz
attribute [local irreducible] Code.wp wpList wpAnyH
open Go.Vs Go.ChangeShapes Go.WideShapes Go.ChangeAt Go.RowKit
structure TysB (P:Program) (tAs tQ:TypeId):Prop where
  q:∃ fs,P.underlying tQ=some (.struct fs)/\fs.toList.map (λf=>(f.type,f.offset))=[(tAs,0)]
  cas:P.cellsOf tAs=1
  cq:P.cellsOf tQ=1
section
variable {H:Type} {enc:TypeId×Value->H} {P:Program} {W:World} {tI tB tS tSs tC tCs tA tAs tP tPs tQ:TypeId} (X:Tys P tI tB tS tSs tC tCs tA tAs tP tPs) (Y:TysB P tAs tQ) {base:Nat} {v:Value} {d:DataW H} {ps:List MemPlace}
include X Y
theorem Bo_ (e:Value.okWide P W .any base tQ v) (h:DataW.Trod enc P W 0 (λ_=>true) true tQ v d ps) (B:wok (d.weights P tQ)) :
    ∃ (l:List Ax) (ad:Ao) (cap:Nat),v=.agg #[.slice ad l.length cap]/\(bZ_ ad l).p (vw W)/\(∀ y∈l,y.ok)/\l.length<=cap/\cap<=2199023255488:=by
  obtain⟨L,F,K⟩:=Y.q;unfold Value.okWide at e;rw[F]at e;obtain⟨cs,rfl,_⟩:=e;obtain⟨n,I⟩:=h;simp only[Value.cells]at I;obtain⟨xs,m,G,M,hl,A,J,C⟩:=fields_of F K I;rw[C]at B
  match xs,A with
  | [x0],_ =>
  simp only[yar_,ybf_,DataW.weightsEach,fv_]at B;have x:=J 0 _ rfl;simp only[ybM_,Y.cas]at x;obtain⟨l,ad,cap,k,E⟩:=axs_of X x B.1;rw[Y.cq]at hl;refine⟨l,ad,cap,?_,E⟩;rw[ycw_,yac_ zaa_]at k;rw[<-k]
end
theorem tysB:TysB prog 22 24 where
  q:=⟨_,underlying24,rfl⟩
  cas:=by kernel_rfl
  cq:=by kernel_rfl
end Go.Proofs.YtbffkokbdeppaaaGreatDoor
namespace Go.Vs
open Go Go.Sx
inductive RchS (nx:Str->List Str) (I:List Str):Str->Prop
  | zero {s:Str}:s∈I->RchS nx I s
  | step {s t:Str}:RchS nx I s->t∈nx s->RchS nx I t
theorem RchS.mem {nx:Str->List Str} {I T:List Str} (d:∀ s,∀ t∈nx s,t∈T) {t:Str} (h:RchS nx I t):t∈I++T:=by
  cases h<;>grind
structure CI (nx:Str->List Str) (I K W:List Str):Prop where
  r0:∀ s∈I,s∈K
  sub:∀ s∈W,s∈K
  rch:∀ s∈K,RchS nx I s
  cls:∀ s∈K,s ∉ W->∀ t∈nx s,t∈K
structure CJ (nx:Str->List Str) (I:List Str) (k:Str) (j:Nat) (K W:List Str):Prop where
  r0:∀ s∈I,s∈K
  sub:∀ s∈W,s∈K
  rch:∀ s∈K,RchS nx I s
  hk:k∈K
  cls:∀ s∈K,s ∉ W->s≠k->∀ t∈nx s,t∈K
  dn:∀ t∈(nx k).take j,t∈K
theorem CI.init {nx:Str->List Str} {I K:List Str} (h:∀ n,n∈K↔n∈I):CI nx I K I :=
  ⟨λs d=>(h s).2 d,λs d=>(h s).2 d,λs d=>.zero ((h s).1 d),λs d e=>absurd ((h s).1 d) e⟩
theorem CI.pop {nx:Str->List Str} {I K W:List Str} {k:Str} (h:CI nx I K (k::W)):CJ nx I k 0 K W :=
  ⟨h.r0,λs d=>h.sub s (yaK_ _ d),h.rch,h.sub k yao_,λs d e hk=>h.cls s d zak_,by simp⟩
theorem CJ.skip {nx:Str->List Str} {I K W:List Str} {k t:Str} {j:Nat} (h:CJ nx I k j K W) (m:(nx k)[j]? = some t) (e:t∈K):CJ nx I k (j+1) K W :=
 ⟨h.r0,h.sub,h.rch,h.hk,h.cls,λz d=>by
   rw[tk1 m,yai_,yam_]at d;rcases d with d|rfl
   . exact h.dn z d
   . exact e⟩
theorem CJ.take {nx:Str->List Str} {I K W A:List Str} {k t:Str} {j:Nat} (h:CJ nx I k j K W) (y:(nx k)[j]? = some t) (m:∀ n,n∈A↔n∈K\/n=t):CJ nx I k (j+1) A (W++[t]) :=
  ⟨λs d=>(m s).2 (.inl (h.r0 s d)),λs d=>(m s).2 (by rw[yai_,yam_]at d;exact d.imp (h.sub s) id),λs d=>(m s).1 d |>.elim (h.rch s) (λe=>e▸(h.rch k h.hk).step (yab_ y)),(m k).2 (.inl h.hk),
   λs d x hk z v=>by
    simp only[yai_,yam_,not_or]at x;exact (m z).2 (.inl (h.cls s (((m s).1 d).resolve_right x.2) x.1 hk z v)),
   λz v=>by
    rw[tk1 y,yai_,yam_]at v;exact (m z).2 (v.imp (h.dn z) id)⟩
theorem CJ.done {nx:Str->List Str} {I K W:List Str} {k:Str} {j:Nat} (h:CJ nx I k j K W) (x:(nx k).length<=j):CI nx I K W :=
 ⟨h.r0,h.sub,h.rch,λs d v t m=>by
   by_cases e:s=k
   . exact h.dn t zbq_
   . exact h.cls s d v e t m⟩
theorem CI.fine {nx:Str->List Str} {I K:List Str} (h:CI nx I K []) (t:Str):t∈K↔RchS nx I t :=
  ⟨h.rch t,λq=>by
    induction q with
    | zero hs=>exact h.r0 _ hs
    | step _ hm ih=>exact h.cls _ ih zai_ _ hm⟩
theorem zL_ {nx:Str->List Str} {I T K:List Str} (d:∀ s,∀ t∈nx s,t∈T) (k:K.Nodup) (h:∀ s∈K,RchS nx I s):K.length<=I.length+T.length:=by
  have:=gR_ k (m:=I++T) λs e=>(h s e).mem d
  grind
theorem kY_ {L:List (Str×Str)} {r:Str} {K:List Str} (e:K.Nodup) (h:∀ s∈K,RchS (lat L) [r] s):K.length<=L.length+1:=by
  have:=zL_ (T:=L.map (·.2)) (λs t d=>yan_.2 ⟨_,cy_.1 d,rfl⟩) e h
  grind
def sp_ (l:List Ax):List (Str×Str):=l.flatMap λx=>if x.kind=5 then [(x.roles.headD [],x.role)] else []
theorem rq_ {l:List Ax} {i:Nat} {x:Ax} (h:l[i]? = some x):sp_ (l.take (i+1))=sp_ (l.take i)++if x.kind=5 then [(x.roles.headD [],x.role)] else []:=by
  grind[sp_,List.take_add_one]
theorem pT_ (l:List Ax):(sp_ l).length<=l.length:=by
  induction l<;>grind[sp_]
def AbvR (l:List Ax) (r:Str) (X:List Str):Prop:=SrS X/\∀ t,t∈X↔RchS (lat (sp_ l)) [r] t
end Go.Vs
namespace Go.Sx
open Go
theorem zb_ {P:Program} {N:Nf} {fr:Fr} {H F:Hp} {Γ:List Fct} {ty:TypeId} {e:TypeId} {sz n:Nat} {sv:Value} {xs:List Value} {Hr:Hp} {x:Operand} {t:TypeId} {k:Nat} {u:Value} (d:ORow e sz sv n xs Hr) (m:H.Perm (Hr++F)) (y:∀ w,(isAgg t).run P w=.ok false w)
    (A:Fr.ev fr x=some (.pointer (some ⟨svB sv,svO sv+k,none⟩))) (v:xs[k]? = some u):Yld P N fr H Γ (.load t x) ty u:=by
  cases d with
  | row h =>
    refine cS_ h m y ?_ v;rcases h.2 with⟨rfl,B,_⟩|⟨g,cap,cur,rfl,_⟩
    all_goals grind[svO]
  | @cut g k0 n cap pre xs Hr hp' h =>
    refine cS_ (k:=k0*sz+k) h m y (by rw[A];rfl) ?_
    grind
  | out=>simp at v
end Go.Sx
namespace Go.Proofs.YtbffkokbdeppaaaGreatDoor
open Go Go.Sx Go.Proofs Tryz
attribute [local irreducible] Code.wp wpList wpAnyH
open Go.Vs
theorem wh_ {s:StM} {k:Str} (h:k ∉ s.ks):(s.add k).ks=s.ks++[k]:=by unfold StM.add;rw[dif_neg h]
theorem yK_ (r:Str) (sb:Nat) (L:List (Str×Str)) (adr:Str->Ao×Nat) (hL:L.length<=100000):Tri prog 238 #[str r,.map (some sb)] [] [mlF prog 9 str aa_ sb L adr] (λy:{y:Nat×StM // ∀ t,t∈y.2.ks↔RchS (lat L) [r] t}=>.map (some y.1.1)) (λy=>[(y.1.1,.map y.1.2.es y.1.2.c)]) (λ_=>[]):=by
 refine j_ func238 rfl rfl ntmps238 rfl λv_1=>?_;refine Zz 7 ?_;refine bt_ rfl λG=>Zz 1 ?_
 refine qH_ 0 StM.nil bu_ (.inl rfl) du_ rfl rfl rfl rfl (Zz 8 ?_);refine B_ n_ D_ V_ rfl rfl rfl rfl rfl rfl λI=>Zz 4 ?_
 have U:ORow 9 1 (.slice (some ⟨I,0,none⟩) 1 1) (List.length [r]) (List.flatMap aa_ [r]) [(I,.cells #[str r] 9 (0,0))]:=ORow.row (at_.lit rfl (by simp[maxLen]));refine u_ (c_ e_) ?_;refine J_ (ι:={y:StM×List Str×Value×Hp // CI (lat L) [r] y.1.ks y.2.1/\ORow 9 1 y.2.2.1 y.2.1.length (y.2.1.flatMap aa_) y.2.2.2/\y.2.1.length<=List.length y.1.ks}) (λy=>[(1,.map (some sb)),(4,.map none),(5,.map (some G)),(6,y.1.2.2.1)]) (λy=>((G,.map y.1.1.es y.1.1.c)::y.1.2.2.2)) (λy=>[mlF prog 9 str aa_ sb L adr]) (λy=>(List.length L+1) - y.1.1.ks.length+y.1.2.1.length) ⟨((StM.add StM.nil r),[r],(.slice (some ⟨I,0,none⟩) 1 1),[(I,.cells #[str r] 9 (0,0))]),CI.init λn=>by rw[StM.mem];simp[StM.nil],U,by dsimp only;rw[wh_ (by simp[StM.nil])];simp[StM.nil]⟩ zl zp zh ?_;rintro ⟨⟨s,W,svW,HW⟩,hC,T,O⟩;dsimp only at hC T O ⊢;have hsl:=kY_ s.hE.nd hC.rch;refine Zz 4 ?_;refine d_ (yZ_ T n_ rfl) rfl ?_;refine Zi 0 (λa1=>?_) λa1=>?_
 .refine Zz 12 ?_
  obtain rfl:W=[]:=yaw_ zaa_;exact ac_ results238 ⟨(G,s),λt=>hC.fine t⟩ rfl e_ zt
 obtain⟨k,W,rfl⟩:∃ k N,W=k::N:=by cases W with|nil=>simp at*| cons k N=>exact⟨k,N,rfl⟩
 refine Zz 9 ?_;refine d_ (Bz_ T n_ D_ rfl rfl zae_ (by simp only[yak_];omega)) rfl ?_;refine d_ (zb_ (k:=(0:Int).toNat*1) T E_ W_ rfl rfl) rfl (Zz 6 ?_);refine Ac_ (i:=1) (kl:=.i64) T n_ D_ rfl rfl (by simp only[yak_];omega) rfl λK V=>?_;have Y:ORow 9 1 K W.length (W.flatMap aa_) HW:=by simpa [aa_] using V
 have X:=hC.pop;have hlk:=dv_ L k;refine Zz 7 ?_;refine d_ (bS_ (k:=k) (adr:=adr) bu_ bf_ br_ rfl rfl zf) rfl (Zz 5 ?_);refine J_ (ι:={y:Nat×StM×List Str×Value×Hp // y.1<=List.length (lat L k)/\CJ (lat L) [r] k y.1 y.2.1.ks y.2.2.1/\ORow 9 1 y.2.2.2.1 y.2.2.1.length (y.2.2.1.flatMap aa_) y.2.2.2.2/\y.2.1.ks.length+W.length=s.ks.length+List.length y.2.2.1}) (λy=>[(1,.map (some sb)),(4,.map none),(5,.map (some G)),(6,y.1.2.2.2.1),(25,.slice (adr k).1 (lat L k).length (adr k).2),(26,i4_ (List.length (lat L k):Int)),(27,i4_ y.1.1)]) (λy=>((G,.map y.1.2.1.es y.1.2.1.c)::y.1.2.2.2.2)) (λy=>[mlF prog 9 str aa_ sb L adr]) (λy=>List.length (lat L k) - y.1.1) ⟨((0:Nat),s,W,K,HW),by simp,X,Y,rfl⟩ zl zp zh ?_;rintro ⟨⟨j,e,E,F,M⟩,Z,P,C,S⟩;dsimp only at Z P C S ⊢;have hsl_1:=kY_ e.hE.nd P.rch;have hwk_1:W.length+1<=s.ks.length:=by simpa using O
 refine Zi 2 (λa2=>?_) λa2=>?_
 .refine Zz 6 ?_
  exact w_ ⟨(e,E,F,M),P.done zaa_,C,by dsimp only;simp only[yak_]at O;omega⟩ (by dsimp only;have:=kY_ e.hE.nd P.rch;simp only[yak_]at *;omega) zl (l_ e_ Z_) zh
 have A:j<List.length (lat L k):=by omega
 obtain⟨x,B⟩:∃ e_1,(lat L k)[j]? = some e_1:=⟨_,yaa_ A⟩;refine Zz 10 ?_;refine d_ (P_ n_ D_ rfl rfl (λv _ h=>av_ (n:=1) an_ zae_ (by exact (bj_ h.1 k)) B) zaa_ zag_) rfl ?_;refine d_ (bw_ (ad:=(adr k).1) W_ rfl (λv _ h=>by exact (bj_ h.1 k)) (A_ an_ B 0 _ rfl)) rfl (Zz 7 ?_);refine F_ (ai_ (cU_ (k:=x) (q:=e.ks) bu_ du_ bC_ rfl rfl e.hE (λv h _=>(h.own _ (yab_ (i:=0) rfl)).1)) (show _=Value.bool (decide (x∈e.ks)) from yae_ Value.bool (decide_eq_decide.2 Iff.rfl))) rfl λr_1 d=>d_ (aK_ rfl) rfl (Zz 2 ?_)
 cases r_1
 .replace d:=zdf d
  refine Zz 5 ?_;refine qH_ 0 e bu_ (.inr rfl) du_ rfl rfl rfl rfl (Zz 5 ?_);refine B_ n_ D_ V_ rfl rfl rfl rfl rfl rfl λb_3=>?_;refine U_ (List.flatMap aa_ [x]) e_ rfl ?_;refine tv_ (n:=E.length) (m:=List.length [x]) (news:=List.flatMap aa_ [x]) dj_ C rfl rfl zai_ zai_ E_ rfl zf (λu hu=>aF_ cz_ hu) (by simp only[maxLen,yak_,yay_];omega) zao_ rfl λH J Q=>?_;have a0:ORow 9 1 H (E++[x]).length (List.flatMap aa_ (E++[x])) J:=by rw[yaj_,ybu_];exact Q
  refine Zz 3 ?_;refine u_ (aW_ aJ_) (Zz 5 ?_);exact w_ ⟨(j+1,(StM.add e x),(E++[x]),H,J),A,P.take B λn=>StM.mem,a0,(by rw[wh_ (by simpa using d),yaj_,yaj_];simp only[yak_,yay_];omega)⟩ zab_ zl zp (λ_ _ h=>h.2)
 replace d:=zdt d;refine Zz 8 ?_;exact w_ ⟨(j+1,e,E,F,M),A,P.skip B (by simpa using d),C,S⟩ zab_ zl zp zh
theorem pH_ (k:List Ax) (lad:Ao) (lcap:Nat) (F:∀ x∈k,x.ok) (H:∀ x∈k,x.check=0) (I:k.length<=20) (nm:List Str) (rad:Ao) (rcap:Nat) (A:∀ q∈nm,bg_ q=true/\q.length<=140737488351232) (J:nm.length<=100):Tri prog 237 #[.slice lad k.length lcap,.slice rad nm.length rcap] [] [bZ_ lad k,bE_,X_ rad (nm.flatMap aa_)] (λ_:Unit=>i4_ 0) (λ_=>[]) (λ_=>[]):=by
 refine j_ func237 rfl rfl ntmps237 rfl λG=>?_;refine Zz 9 ?_;refine f_ (qz_ k lad lcap F H zaa_) rfl i_ zf rfl λ_=>Zz 6 ?_
 refine d_ (ai_ (cq_ rfl rfl) (show _=Value.bool false from yae_ Value.bool zae_)) rfl (Zz 14 ?_);refine J_ (ι:={y:Nat // y<=List.length nm}) (λy=>[(4,i4_ 0),(14,.slice rad nm.length rcap),(15,i4_ (List.length nm:Int)),(16,i4_ y.1)]) (λy=>([])) (λy=>[bZ_ lad k,bE_,X_ rad (nm.flatMap aa_)]) (λy=>nm.length - y.1) ⟨(0:Nat),by simp⟩ zl i_ zh ?_;rintro ⟨i,C⟩;dsimp only at C ⊢;refine Zi 2 (λB=>?_) λB=>?_
 .refine Zz 12 ?_
  exact ac_ results237 () rfl i_ zt
 have e:i<nm.length:=by omega
 obtain⟨m,v⟩:∃ E,nm[i]? = some E:=⟨_,yaa_ e⟩;have d:m∈nm:=yab_ v;refine Zz 18 ?_;refine f_ (dy_ _ (A m d).2) rfl i_ zt rfl λ_=>Zi 6 (λh=>?_) λh=>?_
 .refine Zz 10 ?_
  exact w_ ⟨i+1,e⟩ zab_ zl i_ zh
 exfalso;rw[yaq_ (A m d).1]at h;exact h rfl
theorem CO_ {l:List Str} {r:Str} (h:l[0]? = some r):l.headD []=r:=by
  cases l with
  | nil=>simp at h
  | cons a l=>simpa using h
theorem mU_ {G:Prop} (h:G:=by
 refine Zz 3 ?_;refine m_ 15 rfl zk (dC_ (k:=B) (dd:=d.role) bu_ F (by rw[cN_];exact J) (.inr rfl) bf_ rfl rfl rfl (cM_ (l_ (g_ (c_ e_)) (x_ s_ (c_ E_)))) λN I=>?_);refine Zz 5 ?_;refine u_ (S_ (g_ e_) (aW_ aJ_)) (Zz 5 ?_);exact w_ ⟨(i+1,N),E,(by rw[rq_ G,yaq_ K,CO_ m];exact I)⟩ zab_ zl zp zh):G:=h
theorem xe_ (A:List Ax) (lad:Ao) (lcap:Nat) (hok:∀ x∈A,x.ok) (hC:∀ x∈A,x.check=0) (hll:A.length<=20) (r:Str) (hr:bg_ r=true) (hrl:r.length<=140737488351232):Tri prog 152 #[.slice lad A.length lcap,str r] [] [bZ_ lad A,bE_] (λy:{y:List Str×Ao×Nat // AbvR A r y.1/\rkS y}=>.tuple #[.slice y.1.2.1 y.1.1.length y.1.2.2,i4_ 0]) (λ_=>[]) (λy=>[X_ y.1.2.1 (y.1.1.flatMap aa_)]):=by
 refine j_ func152 rfl rfl ntmps152 rfl λv_1=>?_;refine Zz 11 ?_;refine B_ n_ D_ V_ rfl rfl rfl rfl rfl rfl λU=>?_;refine U_ (List.flatMap aa_ [r]) e_ rfl ?_;refine f_ (pH_ A lad lcap hok hC hll [r] (some ⟨U,0,none⟩) 1 (λq hq=>by rw[yam_.1 hq];exact⟨hr,hrl⟩) zai_) rfl i_ zf rfl λ_=>?_;refine Zz 6 ?_;refine d_ (ai_ (cq_ rfl rfl) (show _=Value.bool false from yae_ Value.bool zae_)) rfl (Zz 7 ?_);refine bt_ rfl λL=>Zz 12 ?_
 refine J_ (ι:={y:Nat×Hp // y.1<=List.length A/\cC_ str aa_ 9 1 (sp_ (A.take y.1)) L y.2}) (λy=>[(1,str r),(4,.slice none 0 0),(5,i4_ 0),(7,.map (some L)),(18,.slice lad A.length lcap),(19,i4_ (List.length A:Int)),(20,i4_ y.1.1)]) (λy=>(y.1.2)) (λy=>[X_ (some ⟨U,0,none⟩) (List.flatMap aa_ [r]),bZ_ lad A,bE_]) (λy=>A.length - y.1.1) ⟨((0:Nat),[(L,.map #[] 0)]),by simp,cC_.nil _ _⟩ zl Z_ zh ?_;rintro ⟨⟨i,HM⟩,Y,P⟩;dsimp only at Y P ⊢;refine Zi 2 (λH=>?_) λH=>?_
 .refine Zz 7 ?_
  rw[yac_ zaa_]at P;refine jk_ bu_ P Z_ λadr=>?_;have hbl:=pT_ A;refine Zz 3 ?_;refine f_ (yK_ r L (sp_ A) adr (by have:=pT_ A;omega)) rfl i_ zf rfl λ⟨⟨cb,cs⟩,O⟩=>?_;dsimp only;dsimp only at O;refine f_ (wA_ cb) rfl i_ zt rfl λby_=>?_;have X:cs.ks.length<=100000000:=by have:=kY_ cs.hE.nd (λs hs=>(O s).1 hs);omega
  refine f_ (lJ_ 193 [zp_ by_ 0] [(by_,.cells #[.map (some cb)] 151 (0,0)),(cb,.map cs.es cs.c)] cs.ks cs.hE.nd X (wC_ cb by_ cs.c cs.es cs.ks cs.hE.ke cs.hB X)) rfl zp zt rfl λ⟨⟨Q,Z⟩,W,T,a0⟩=>?_;dsimp only;refine Zz 5 ?_;exact eI_ results152 ⟨(cg_ cs.ks,Q,Z),⟨zv_ cs.hE.nd,λt=>by rw[ybx_];exact O t⟩,W,T,a0⟩ rfl rfl rfl i_ zf
 obtain⟨E,d,G,e⟩:=zge (show i<A.length by omega);refine Zz 12 ?_;refine C_ aA_ rfl λb_3=>p_ 0 I_ rfl rfl rfl rfl rfl rfl (Zi 6 (λC=>?_) λC=>?_)
 .refine Zz 10 ?_
  exact w_ ⟨(i+1,HM),E,(by rw[rq_ G,yag_ C,yas_];exact P)⟩ zab_ zl E_ zh
 have K:=C;have hon:=(Ax.good_of (hC d e)).one K;obtain⟨B,m⟩:∃ B,d.roles[0]? = some B:=⟨_,yaa_ zaa_⟩;refine Zz 3 ?_;have a2:=(show (lat (sp_ (A.take i)) B).length<=400000000 from ybn_ (dv_ _ _) (by have:=pT_ (A.take i);have:=ybQ_ i A;omega));refine fI_ bu_ B P E_ λes_1 ce_1 ve_1 Hk_1 Hx_1 M F=>?_;refine u_ (S_ e_ (aW_ (g_ aJ_))) ?_;refine Y_ ((b_3,.cells (Ax.cells d).toArray 30 (0,0))::[]) zk ?_;refine G_ 4 [0,1,2,3,4,5,6,7,8,9,11,12] zk zs (Zz 3 ?_);refine N_ rfl (P_ n_ D_ rfl rfl (λv _ h=>av_ (n:=1) an_ zae_ (by exact (h.2.1.2 d e).2.2) m) zaa_ zag_) rfl ?_;refine N_ rfl (bw_ (ad:=d.ad) W_ rfl (λv _ h=>by exact (h.2.1.2 d e).2.2) (A_ an_ m 0 _ rfl)) rfl (Zz 3 ?_);refine N_ rfl (P_ n_ D_ rfl rfl (λv _ h=>av_ (n:=1) an_ zae_ (by exact (h.2.1.2 d e).2.2) m) zaa_ zag_) rfl ?_;refine N_ rfl (bw_ (ad:=d.ad) W_ rfl (λv _ h=>by exact (h.2.1.2 d e).2.2) (A_ an_ m 0 _ rfl)) rfl (Zz 3 ?_);refine dz_ 10 13 rfl rfl zk ?_ ?_
 .refine d_ (ce_ (k:=B) bu_ F bf_ br_ rfl rfl 0 rfl) rfl (Zz 3 ?_)
  refine m_ 13 rfl zk (B_ n_ D_ V_ rfl rfl rfl rfl rfl rfl λa1=>Zz 3 ?_);refine m_ 14 rfl zk (aH_ (news:=List.flatMap aa_ [d.role]) dj_ M rfl rfl zp rfl (bz_ 0 rfl) (λu hu=>aF_ cz_ hu) zbd_ zbo_ rfl λS V H=>?_);have J:=zsa H;exact mU_
 refine B_ n_ D_ V_ rfl rfl rfl rfl rfl rfl λa1=>Zz 3 ?_
 refine m_ 10 rfl zk (d_ (ce_ (k:=B) bu_ F bf_ br_ rfl rfl 1 rfl) rfl (Zz 3 ?_));refine m_ 14 rfl zk (aH_ (news:=List.flatMap aa_ [d.role]) dj_ M rfl rfl zp rfl (bz_ 0 rfl) (λu hu=>aF_ cz_ hu) zbd_ zbo_ rfl λS V C=>?_);have J:=zsa C;exact mU_
theorem strt96:gr_ prog 96 [(0,1)] [.slice none 0 0]:=⟨_,zeroValue96,runUnderlying96,λw=>by simp[hD_]⟩
theorem BH_ {p:Pc} (h:p.valid=true) (hk:p.kind=1\/p.kind=2\/p.kind=3\/p.kind=4\/p.kind=8):p.a≠[]:=by
 unfold Pc.valid at h
 split at h
 .simp at h
 split at h
 .simp at h
 split at h
 .simp at h
 simp only[yaL_]at h;obtain⟨⟨⟨⟨⟨e,v⟩,_⟩,_⟩,_⟩,_⟩:=h
 have d:∀ {b:Bool},cn_ b p.a bh_=true->b=true->p.a≠[]:=λk m=>by
   grind[cn_,Dq_]
 rcases hk with q|q|q|q|q<;>rw[q]at e<;>exact d e zae_
section
variable {l:List Ax} {S:List Str} (hl:l.length<=12) (hok:∀ x∈l,x.ok) (hc:∀ x∈l,x.check=0)
include hl hok hc
end
end Go.Proofs.YtbffkokbdeppaaaGreatDoor
namespace Go.Proofs.YtbffkokbdeppaaaGreatDoor
open Go Go.Sx Go.Proofs Tryz
attribute [local irreducible] Code.wp wpList wpAnyH
open Go.Vs
structure SL where
  l:List Str
  ad:Ao
  cap:Nat
structure SL.ok (x:SL):Prop where
  le:x.l.length<=x.cap
  nz:x.ad=none->x.cap=0
  sh:x.l.length<=100000
end Go.Proofs.YtbffkokbdeppaaaGreatDoor
namespace Go.Proofs.YtbffkokbdeppaaaGreatDoor
open Go Go.Sx Go.Proofs Tryz
attribute [local irreducible] Code.wp wpList wpAnyH
open Go.Vs Go.Shelf Go.RowKit
theorem gm_ {s:Str} (h:bN_ s=true):bg_ s=true:=by grind[bg_]
def Rul.eqb (p q:Rul):Bool:=(p.f==q.f)&&((p.s==q.s)&&((p.r==q.r)&&true))
theorem Rul.eqb_eq (p q:Rul):Rul.eqb p q=decide (p=q):=by
  cases p;cases q;rw[ybh_];simp[Rul.eqb]
theorem Rul.cells_one (x:Rul):x.cells.all Value.oneCell'=true:=rfl
theorem Itm.cells_one (x:Itm):x.cells.all Value.oneCell'=true:=rfl
theorem eqRul (p q:Rul) (w:World):(Op.equalIn 10000 373 (Rul.val p) (Rul.val q)).run prog w=.ok (decide (p=q)) w:=by
  have h:=run_equalIn_struct (P:=prog) w 9999 373 (Rul.cells p).toArray (Rul.cells q).toArray (by simp only[Program.fieldsOf,underlying373]) Tryz.stoodInHeld373;refine h.trans ?_;rw[<-Rul.eqb_eq];simp only[Program.fieldsOf,underlying373];exact bR_ rfl W_ rfl rfl (eqS aB_ w) (bR_ rfl W_ rfl rfl (eqS aB_ w) (bR_ rfl W_ rfl rfl (eqS aB_ w) (jQ_ w)))
theorem okRul (p:Rul):hV_ prog 373 (Rul.val p):=λe w=>by
 have h:∀ (n:Str) (w:World),(Instr.checkKey e (9998+1) 9 (str n)).run prog w=.ok () w:=λn w=>MapKept.run_checkKey (d:=.string) aB_ zaN_ e 9998
 refine ckF (n:=9999) underlying373 λf k=>?_;simp only[yal_,yat_,ybd_]at k;rcases k with rfl|rfl|rfl
 .exact⟨rfl,W_,_,rfl,h _⟩
 .exact⟨rfl,W_,_,rfl,h _⟩
 exact⟨rfl,W_,_,rfl,h _⟩
theorem rJ_:KeyT prog 373 Rul.val:=eV_ (K:=Rul) underlying373 okRul (λp q w=>eqRul p q w) λk=>hE_ (l:=Rul.cells k) λv d=>by
 simp only[Rul.cells,yal_,yat_,ybd_]at d;rcases d with rfl|rfl|rfl
 .exact fR_ _ _
 .exact fR_ _ _
 exact fR_ _ _
theorem fM_:Elt prog 371 373 3 48:=fT_ underlying371 (z:=.agg #[str [],str [],str []]) zad_ rfl zae_
theorem wL_:Elt prog 365 369 3 32:=fT_ underlying365 (z:=.agg #[str [],i4_ 0,i4_ 0]) zad_ rfl zae_
theorem wd_:gr_ prog 373 [(0,1),(1,1),(2,1)] [str [],str [],str []]:=⟨_,bq_,runUnderlying373,λw=>by simp[D_]⟩
theorem we_:gr_ prog 369 [(0,1),(1,1),(2,1)] [str [],i4_ 0,i4_ 0]:=⟨_,zeroValue369,runUnderlying369,λw=>by simp[R_,D_]⟩
theorem BO_:gr_ prog 363 [(0,1),(1,1),(2,1),(3,1)] [.map none,.map none,.map none,.slice none 0 0]:=⟨_,zeroValue363,runUnderlying363,λw=>by simp[dG_,sizeOf200,sizeOf361]⟩
theorem nN_ (xs:List Str) (d:Str) (ad:Ao) (cap:Nat) (H:xs≠[]) (m:xs.length<=cap) (P:xs.length<=1000000) (A:(Lib.join xs d).length<=140737488355328) :
    Tri prog 369 #[.slice ad xs.length cap,str d] [] [X_ ad (xs.flatMap aa_),bE_] (λ_:Unit=>str (Lib.join xs d)) (λ_=>[]) (λ_=>[]):=by
  refine cG_ (callable func369 rfl rfl) λv M G=>?_;have e:(xs.map λx=>(⟨x.toArray⟩:ByteArray)).map (·.data.toList)=xs:=by simp[ycK_,Function.comp_def]
  have E:bW_ v ad (xs.flatMap aa_):=G.1;obtain⟨b,off,rfl⟩:=av_ an_ zae_ E (yaa_ (ycI_.2 H))
  have N:∀ (j:Nat) (x:Str),xs[j]? = some x->v.w.cell? ⟨b,off+j,none⟩=some (str x):=λj x B=>by
    have:=E.cell (k:=j) (x:=str x) (by have:=A_ an_ B 0 (str x) rfl;simpa using this);simpa [rad,bas] using this
  have C:b<v.w.heap.size:=by
    rcases E with h|⟨O,F,L,T,fz,h,J,I,_⟩
    . cases xs with
      | nil=>exact absurd rfl H
      | cons a l=>simp[aa_]at h
    . simp only[yah_,Addr.mk.injEq]at h
      rw[h.1];exact (yaA_.1 I).1
  have:=Tryz.strings_Join b off cap (xs.map λx=>⟨x.toArray⟩) ⟨d.toArray⟩ v.w (λj x B=>by
    simp only[yaM_,ycf_]at B;obtain⟨y,K,rfl⟩:=B;exact N j y K) C zar_ (by simpa using m) (by rw[e];exact A)
  rw[e,yaC_]at this;exact this.mono λ_ _ q=>⟨q.1,q.2,.inl G.2.1.2.2.2.1⟩
theorem nK_ {x:Ax} {k:Nat} (hk:k<=x.roles.length) (hl:∀ r∈x.roles,r.length<=1000) (C:x.roles.length<=4):(Lib.join (x.roles.take k) [46]).length<=100000:=by
  have h:∀ (l:List Str),(∀ r∈l,r.length<=1000)->l.length<=4->(Lib.join l [46]).length<=100000:=by
    intro l d B;cases l with
    | nil=>simp[Lib.join_nil]
    | cons a t =>
      rw[Lib.join_cons,yaj_,Lib.joinTail_length];have A:=d a zai_
      have e:∀ (t:List Str),(∀ r∈t,r.length<=1000)->Lib.lens t<=t.length*1000:=by
        intro t
        induction t with
        | nil=>intro _;simp[Lib.lens]
        | cons b t ih =>
          intro v;have:=ih λr d=>v r zaH_
          have:=v b zai_;simp only[Lib.lens,yar_,List.sum_cons,yak_]at *;omega
      have y:=e t λr m=>d r (by simp[m])
      simp only[yak_,yay_]at *;omega
  exact h (x.roles.take k) (λr d=>hl r (ybr_ d)) zaB_
theorem hH_ {x:Ax} {i:Nat} {r:Str} (d:x.roles[i]? = some r) (hi:(i:Int)=(x.roles.length:Int) - 1):Ax.rul x i=⟨Lib.join (x.roles.take i) [46],r,x.role⟩:=by
  have:i+1=x.roles.length:=by omega
  unfold Ax.rul;rw[yaq_ this];simp[List.getD,d]
theorem jI_ {x:Ax} {i:Nat} {r:Str} (d:x.roles[i]? = some r) (hi:¬ (i:Int)=(x.roles.length:Int) - 1):Ax.rul x i=⟨Lib.join (x.roles.take i) [46],r,Lib.join (List.take (i+1) x.roles) [46]⟩:=by
  have:¬ i+1=x.roles.length:=by omega
  unfold Ax.rul;rw[yag_ this];simp[List.getD,d]
theorem gq_ {α:Type} [DecidableEq α] {y:α} {l:List α} (h:¬ y∈l):fD_ y l=l++[y]:=yag_ h
theorem eF_ {α:Type} [DecidableEq α] {y:α} {l:List α} (h:y∈l):fD_ y l=l:=yaq_ h
structure GrmS where
  R:List Rul
  LA:List (Str×Str)
  RF:List Str
  ba:Nat
  b1:Nat
  b2:Nat
  HA:Hp
  H1:Hp
  H2:Hp
  sv:Value
  HF:Hp
structure GrmSOk (n:Nat) (y:GrmS):Prop where
  len:y.R.length<=4*n
  la:y.LA.length<=n
  lf:y.RF.length<=n
  ma:cC_ str aa_ 9 1 y.LA y.ba y.HA
  m1:cC_ str Rul.cells 373 3 (List.map (λx=>(Rul.f x,x)) y.R) y.b1 y.H1
  m2:cC_ str Rul.cells 373 3 (List.map (λx=>(Rul.s x,x)) y.R) y.b2 y.H2
  rf:zR 9 1 aa_ y.sv y.RF y.HF
theorem me_ {G:Prop} (h:G:=by
 exact dh_ ⟨(a8,e,N),m⟩ zl (l_ (c_ e_) (l_ (c_ (c_ e_)) (l_ (c_ e_) (l_ (c_ e_) (l_ e_ (x_ (g_ (g_ aJ_)) (x_ (g_ s_) (x_ aJ_ Z_)))))))) zf):G:=h
theorem mf_ {G:Prop} (h:G:=by
 refine m_ 11 rfl zk (bK_ (news:=List.flatMap Rul.cells [(Rul.mk (Lib.join (d.roles.take i) [46]) A d.role)]) fM_ Q rfl rfl (λq=>by cases q) zai_ zp zat_ zf (λu Y=>aF_ Rul.cells_one Y) zal_ zaa_ rfl λb5 b8 c0=>?_);have I:=zsa c0;exact mj_):G:=h
theorem mg_ {G:Prop} (h:G:=by
 refine B_ bp_ bv_ bq_ rfl rfl rfl rfl rfl rfl λd0=>?_;refine U_ (List.flatMap Rul.cells [(Rul.mk (Lib.join (d.roles.take i) [46]) A d.role)]) e_ rfl ?_;refine Zz 3 ?_;refine m_ 8 rfl zk (d_ (ce_ (k:=A) bu_ E aG_ cd_ rfl rfl 0 rfl) rfl (Zz 3 ?_));exact mf_):G:=h
theorem mh_ {G:Prop} (h:G:=by
 refine m_ 15 rfl zk (f_ (nN_ (List.take (i+1) d.roles) [46] (sad d.ad d.cap 0 1) (d.cap - 0) zau_ zaB_ zaB_ (ybn_ (nK_ zaa_ e8 e2.2) zae_)) rfl i_ (λv _ h=>by exact⟨(bW_.slice an_ (h.1.2 d C).2.2 d1 0 (i+1)),h.2.1,trivial⟩) rfl λ_=>?_);refine Zz 3 ?_;refine G_ 1 [16] zk zs (N_ rfl (y_ wd_ rfl rfl) rfl (bX_ (m_ 18 rfl zk (p_ 0 bv_ rfl rfl rfl rfl rfl rfl (Zz 5 ?_)))));exact me_):G:=h
theorem mi_ {G:Prop} (h:G:=by
 refine m_ 16 rfl zk (bK_ (news:=List.flatMap aa_ [d.role]) dj_ a5 rfl rfl (λq=>by cases q) zai_ zp (by rw[ch_ aa_ 1 an_];rfl) zf (λu Y=>aF_ cz_ Y) zal_ zaa_ rfl λb0 b6 S=>?_);have M:=zsa S;refine Zz 3 ?_;refine m_ 17 rfl zk (dC_ (k:=a0) (dd:=d.role) bu_ L zbp_ (.inr rfl) bf_ rfl rfl rfl (cM_ (l_ (g_ e_) (x_ s_ (c_ (c_ (c_ (c_ s_))))))) λU J=>?_);refine Zz 5 ?_;refine u_ (S_ (g_ e_) (S_ (g_ e_) (S_ (g_ e_) (aW_ (g_ e_))))) (Zz 5 ?_);exact w_ ⟨(k+1,R,es,cs,d6,d5,(LA++[(a0,d.role)]),U,RF,e,N),b4,hE,b7,b3,J,by dsimp only;omega,by dsimp only;(try simp only[yaj_,yak_,yay_]);omega,by dsimp only;(try simp only[yaj_,yak_,yay_]);omega,m⟩ zab_ zl zp (λ_ _ h=>h.2)):G:=h
theorem mj_ {G:Prop} (h:G:=by
 refine Zz 2 ?_;refine M_ zs (m_ 12 rfl zk (dC_ (k:=A) (dd:=(Rul.mk (Lib.join (d.roles.take i) [46]) A d.role)) bu_ E (by rw[cN_];exact I) (.inr rfl) aG_ rfl rfl rfl (cM_ (l_ (g_ e_) (x_ s_ (c_ (c_ (c_ (c_ (c_ s_)))))))) λT G=>?_));refine Zz 5 ?_;refine u_ (S_ (g_ e_) (S_ (g_ e_) (S_ (g_ e_) (S_ (g_ e_) (aW_ (g_ e_)))))) (Zz 6 ?_);exact w_ ⟨(i+1,fD_ (Ax.rul d i) F,H,K,U,T,e,N),by omega,by omega,by rw[hH_ B zaa_,gq_ zaf_];simpa only[yaz_,yar_,ybf_,yag_ zaf_] using a1,by rw[hH_ B zaa_,gq_ zaf_];simpa only[yaz_,yar_,ybf_,yag_ zaf_] using J,by rw[hH_ B zaa_,gq_ zaf_];simpa only[yaz_,yar_,ybf_,yag_ zaf_] using G,by have:=lG_ (y:=Ax.rul d i) (l:=F);dsimp only;omega,m⟩ zab_ zl (l_ e_ (l_ (c_ e_) (l_ e_ (x_ (c_ (c_ (g_ (g_ aJ_)))) (x_ (c_ (c_ (g_ s_))) (x_ (c_ (c_ s_)) (l_ e_ E_))))))) (λ_ _ h=>h.2.2)):G:=h
theorem hb_ {G:Prop} (h:G:=by
 refine Zz 2 ?_;refine M_ zs (m_ 12 rfl zk (dC_ (k:=A) (dd:=(Rul.mk (Lib.join (d.roles.take i) [46]) A (Lib.join (List.take (i+1) d.roles) [46]))) bu_ E (by rw[cN_];exact I) (.inr rfl) aG_ rfl rfl rfl (cM_ (l_ (g_ e_) (x_ s_ (c_ (c_ (c_ (c_ (c_ s_)))))))) λT G=>?_));refine Zz 5 ?_;refine u_ (S_ (g_ e_) (S_ (g_ e_) (S_ (g_ e_) (S_ (g_ e_) (aW_ (g_ e_)))))) (Zz 6 ?_);exact w_ ⟨(i+1,fD_ (Ax.rul d i) F,H,K,U,T,e,N),by omega,by omega,by rw[jI_ B zaa_,gq_ zaf_];simpa only[yaz_,yar_,ybf_,yag_ zaf_] using a1,by rw[jI_ B zaa_,gq_ zaf_];simpa only[yaz_,yar_,ybf_,yag_ zaf_] using J,by rw[jI_ B zaa_,gq_ zaf_];simpa only[yaz_,yar_,ybf_,yag_ zaf_] using G,by have:=lG_ (y:=Ax.rul d i) (l:=F);dsimp only;omega,m⟩ zab_ zl (l_ e_ (l_ (c_ e_) (l_ e_ (x_ (c_ (c_ (g_ (g_ aJ_)))) (x_ (c_ (c_ (g_ s_))) (x_ (c_ (c_ s_)) (l_ e_ E_))))))) (λ_ _ h=>h.2.2)):G:=h
theorem pX_ (l:List Ax) (ad:Ao) (cap:Nat) (hok:∀ x∈l,x.ok) (hC:∀ x∈l,x.check=0) (hll:l.length<=1000):Tri prog 329 #[.slice ad l.length cap] [] [bZ_ ad l,bE_] (λy:{y:GrmS // GrmSOk l.length y}=>.agg #[.map (some y.1.ba),.map (some y.1.b1),.map (some y.1.b2),y.1.sv]) (λy=>y.1.HA++(y.1.H1++(y.1.H2++y.1.HF))) (λ_=>[]):=by
 refine j_ func329 rfl rfl ntmps329 rfl λv_1=>?_;refine Zz 2 ?_;refine C_ zeroValue363 rfl λZ=>Zz 4 ?_
 refine bt_ rfl λa3=>bt_ rfl λa2=>bt_ rfl λV=>d_ (y_ BO_ rfl rfl) rfl (C_ zeroValue363 rfl λX=>p_ 0 zE_ rfl rfl rfl rfl rfl rfl (Zz 4 ?_))
 refine bt_ rfl λW=>Zz 12 ?_
 let Ru:Nat×Obj:=(Z,.cells #[.map none,.map none,.map none,.slice none 0 0] 363 (0,0));refine J_ (ι:={y:Nat×List Rul×Array MapEntry×Nat×Hp×Hp×List (Str×Str)×Hp×List Str×Value×Hp // y.1<=List.length l/\SetE Rul.val y.2.2.1 y.2.1/\cC_ str Rul.cells 373 3 (List.map (λx=>(Rul.f x,x)) y.2.1) a2 y.2.2.2.2.1/\cC_ str Rul.cells 373 3 (List.map (λx=>(Rul.s x,x)) y.2.1) V y.2.2.2.2.2.1/\cC_ str aa_ 9 1 y.2.2.2.2.2.2.1 a3 y.2.2.2.2.2.2.2.1/\y.2.1.length<=4*y.1/\y.2.2.2.2.2.2.1.length<=y.1/\y.2.2.2.2.2.2.2.2.1.length<=y.1/\zR 9 1 aa_ y.2.2.2.2.2.2.2.2.2.1 y.2.2.2.2.2.2.2.2.1 y.2.2.2.2.2.2.2.2.2.2}) (λy=>[(2,zp_ Z 0),(3,zp_ X 0),(4,.map (some W)),(14,.slice ad l.length cap),(15,i4_ (List.length l:Int)),(16,i4_ y.1.1)]) (λy=>(Ru::((W,.map y.1.2.2.1 y.1.2.2.2.1)::((X,.cells #[.map (some a3),.map (some a2),.map (some V),y.1.2.2.2.2.2.2.2.2.2.1] 363 (0,0))::(y.1.2.2.2.2.2.2.2.1++(y.1.2.2.2.2.1++(y.1.2.2.2.2.2.1++y.1.2.2.2.2.2.2.2.2.2.2))))))) (λy=>[bZ_ ad l,bE_]) (λy=>l.length - y.1.1) ⟨((0:Nat),([]:List Rul),#[],0,[(a2,.map #[] 0)],[(V,.map #[] 0)],([]:List (Str×Str)),[(a3,.map #[] 0)],([]:List Str),(.slice none 0 0),[]),by simp,SetE.nil,by exact cC_.nil _ _,by exact cC_.nil _ _,by exact cC_.nil _ _,by simp,by simp,by simp,(at_.nil _ _)⟩ zl (l_ (c_ (c_ (c_ (c_ (c_ e_))))) (l_ e_ (l_ e_ (l_ (c_ (c_ e_)) (l_ (c_ e_) e_))))) zh ?_;rintro ⟨⟨k,R,es,cs,d6,d5,LA,QA,RF,e,N⟩,hk,hE,b7,b3,d4,hRl,hLl,hFl,m⟩;dsimp only at hk hE b7 b3 d4 hRl hLl hFl m ⊢;refine Zi 2 (λe0=>?_) λe0=>?_
 .refine Zz 9 ?_
  refine p_ 0 zE_ rfl rfl rfl rfl rfl (by have q:=(fQ_ m).2;simp only[Value.cells,ycj_,ycy_,q,ycr_];rfl) ?_;refine Zz 3 ?_;obtain rfl:k=l.length:=by omega
  exact dk_ ⟨⟨R,LA,RF,a3,a2,V,QA,d6,d5,e,N⟩,⟨hRl,hLl,hFl,d4,b7,b3,m⟩⟩ (λa v h_1 h_2=>dm_ (us:=[_,_,_,_]) 0 results329 isAgg363 zE_ rfl rfl rfl a v h_1 h_2) (x_ (c_ (c_ (c_ s_))) (x_ (c_ (c_ (c_ s_))) (x_ (c_ (c_ (c_ s_))) (c_ (c_ E_))))) zt
 obtain⟨b4,d,hx_1,C⟩:=zge (show k<l.length by omega);refine Zz 12 ?_;refine C_ aA_ rfl λa9=>p_ 0 I_ rfl rfl rfl rfl rfl rfl (Zi 11 (λd3=>?_) λd3=>?_)
 .refine Zi 6 (λa4=>?_) λa4=>?_
  .refine Zi 6 (λS=>?_) λS=>?_
   .refine Zz 11 ?_
    exact w_ ⟨(k+1,R,es,cs,d6,d5,LA,QA,RF,e,N),b4,hE,b7,b3,d4,by dsimp only;omega,by dsimp only;(try simp only[yaj_,yak_,yay_]);omega,by dsimp only;(try simp only[yaj_,yak_,yay_]);omega,m⟩ zab_ zl (l_ (c_ e_) (l_ (c_ e_) (l_ (c_ e_) (x_ (c_ s_) (x_ (c_ s_) (x_ (c_ s_) E_)))))) zh
   have e7:=S;have e2:=Ax.Good.chain (Ax.good_of (hC d C)) e7;have hpl:=Ax.Good.roles (Ax.good_of (hC d C));have e8:∀ r∈d.roles,r.length<=1000:=λr hr=>by have:=cA_ (hpl r hr);omega
   have d1:=(hok d C).len;refine Zz 10 ?_;refine J_ (ι:={y:Nat×List Rul×Array MapEntry×Nat×Hp×Hp×Value×Hp // 1<=y.1/\y.1<=List.length d.roles/\SetE Rul.val y.2.2.1 y.2.1/\cC_ str Rul.cells 373 3 (List.map (λx=>(Rul.f x,x)) y.2.1) a2 y.2.2.2.2.1/\cC_ str Rul.cells 373 3 (List.map (λx=>(Rul.s x,x)) y.2.1) V y.2.2.2.2.2.1/\y.2.1.length<=4*k+y.1/\zR 9 1 aa_ y.2.2.2.2.2.2.1 RF y.2.2.2.2.2.2.2}) (λy=>[(2,zp_ Z 0),(3,zp_ X 0),(4,.map (some W)),(6,zp_ a9 0),(14,.slice ad l.length cap),(15,i4_ (List.length l:Int)),(16,i4_ k),(7,i4_ y.1.1)]) (λy=>(Ru::((W,.map y.1.2.2.1 y.1.2.2.2.1)::((X,.cells #[.map (some a3),.map (some a2),.map (some V),y.1.2.2.2.2.2.2.1] 363 (0,0))::(QA++(y.1.2.2.2.2.1++(y.1.2.2.2.2.2.1++((a9,.cells #[i4_ d.kind,.bool d.opn,i4_ d.left.kind,str d.left.name,i4_ d.left.lo,i4_ d.left.hi,.slice d.left.ad d.left.parts.length d.left.cap,i4_ d.right.kind,str d.right.name,i4_ d.right.lo,i4_ d.right.hi,.slice d.right.ad d.right.parts.length d.right.cap,.slice d.ad d.roles.length d.cap,str d.role,str d.a,str d.b] 30 (0,0))::y.1.2.2.2.2.2.2.2)))))))) (λy=>[bZ_ ad l,bE_]) (λy=>d.roles.length - y.1.1) ⟨((1:Nat),R,es,cs,d6,d5,e,N),yad_ _,by dsimp only;omega,hE,b7,b3,by dsimp only;omega,m⟩ zl (l_ (c_ e_) (l_ (c_ e_) (l_ (c_ e_) (x_ (c_ s_) (x_ (c_ s_) (x_ (c_ s_) (l_ e_ Z_))))))) zh ?_;rintro ⟨⟨i,F,c1,d2,f0,e9,e,N⟩,h1i,hii,c2,b9,a6,hRx,m⟩;dsimp only at h1i hii c2 b9 a6 hRx m ⊢;refine au_ (u_ (S_ e_ (S_ e_ (S_ e_ (aW_ (g_ (g_ (g_ e_))))))) (Zi 6 (λe4=>?_) λe4=>?_))
   .refine Zz 10 ?_
    exact w_ ⟨(k+1,F,c1,d2,f0,e9,LA,QA,RF,e,N),b4,c2,b9,a6,d4,by dsimp only;omega,by dsimp only;(try simp only[yaj_,yak_,yay_]);omega,by dsimp only;(try simp only[yaj_,yak_,yay_]);omega,m⟩ zab_ zl zp zh
   have hlro:i<d.roles.length:=by omega
   obtain⟨A,B⟩:∃ e_1,d.roles[i]? = some e_1:=⟨_,yaa_ hlro⟩;refine Zz 8 ?_;let Su:Array Value:=#[str (Lib.join (d.roles.take i) [46]),str A,str (Lib.join (List.take (i+1) d.roles) [46])];let Tu:Nat×Obj:=(a9,.cells (Ax.cells d).toArray 30 (0,0));refine hj_ (ι:={y:Nat×Value×Hp // zR 9 1 aa_ y.2.1 RF y.2.2}) (λy=>[(2,zp_ Z 0),(3,zp_ X 0),(4,.map (some W)),(6,zp_ a9 0),(14,.slice ad l.length cap),(15,i4_ (List.length l:Int)),(16,i4_ k),(7,i4_ i),(8,zp_ y.1.1 0)]) (λy=>(Ru::((X,.cells #[.map (some a3),.map (some a2),.map (some V),y.1.2.1] 363 (0,0))::((W,.map c1 d2)::(Tu::((y.1.1,.cells Su 373 (0,0))::(y.1.2.2++(f0++(e9++QA))))))))) (λy=>[bZ_ ad l,bE_]) ?_ ?_
   .refine Zz 1 ?_
    refine G_ 5 [0,1,2,3,5,6,7,8,9,10,11,12,13,14] zk zs (Zz 3 ?_);refine N_ rfl (ai_ (cD_ (i:=0) (j:=i) (kl:=.i64) (kh:=.i64) n_ D_ rfl rfl rfl zaa_ (by have:=d1;omega)) (show _=Value.slice (sad d.ad d.cap 0 1) (d.roles.take i).length (d.cap - 0) by rw[yaI_,ybA_ zaa_];rfl)) rfl ?_;refine Zz 3 ?_;refine N_ rfl (P_ n_ D_ rfl rfl (λv _ h=>av_ (n:=1) an_ zae_ (by exact (h.1.2 d C).2.2) B) zaa_ zag_) rfl ?_;refine N_ rfl (bw_ (ad:=d.ad) W_ rfl (λv _ h=>by exact (h.1.2 d C).2.2) (A_ an_ B 0 _ rfl)) rfl (Zz 4 ?_);refine N_ rfl (ai_ (cD_ (i:=0) (j:=(i+1)) (kl:=.i64) (kh:=.i64) n_ D_ rfl rfl rfl zaa_ (by have:=d1;omega)) (show _=Value.slice (sad d.ad d.cap 0 1) (List.take (i+1) d.roles).length (d.cap - 0) by rw[yaI_,ybA_ zaa_];rfl)) rfl ?_;refine bX_ ?_;refine dz_ 4 17 rfl rfl zk ?_ ?_
    .refine f_ (nN_ (d.roles.take i) [46] (sad d.ad d.cap 0 1) (d.cap - 0) zau_ zaB_ zaB_ (ybn_ (nK_ zaa_ e8 e2.2) zae_)) rfl i_ (λv _ h=>by exact⟨(bW_.slice an_ (h.1.2 d C).2.2 d1 0 i),h.2.1,trivial⟩) rfl λ_=>?_
     refine Zz 3 ?_;refine dz_ 15 17 rfl rfl zk ?_ ?_
     .refine f_ (nN_ (List.take (i+1) d.roles) [46] (sad d.ad d.cap 0 1) (d.cap - 0) zau_ zaB_ zaB_ (ybn_ (nK_ zaa_ e8 e2.2) zae_)) rfl i_ (λv _ h=>by exact⟨(bW_.slice an_ (h.1.2 d C).2.2 d1 0 (i+1)),h.2.1,trivial⟩) rfl λ_=>?_
      refine Zz 3 ?_;refine G_ 2 [16] zk zs (N_ rfl (y_ wd_ rfl rfl) rfl (bX_ (m_ 17 rfl zk (C_ bq_ rfl λa8=>Zz 3 ?_))));refine m_ 18 rfl zk (p_ 0 bv_ rfl rfl rfl rfl rfl rfl (Zz 5 ?_));exact me_
     refine C_ bq_ rfl λa8=>Zz 3 ?_
     exact mh_
    refine C_ bq_ rfl λa8=>Zz 3 ?_
    refine m_ 4 rfl zk (f_ (nN_ (d.roles.take i) [46] (sad d.ad d.cap 0 1) (d.cap - 0) zau_ zaB_ zaB_ (ybn_ (nK_ zaa_ e8 e2.2) zae_)) rfl i_ (λv _ h=>by exact⟨(bW_.slice an_ (h.1.2 d C).2.2 d1 0 i),h.2.1,trivial⟩) rfl λ_=>?_);refine Zz 3 ?_;exact mh_
   rintro ⟨⟨O,e,N⟩,m⟩;dsimp only at m ⊢;refine bF_ [(2,zp_ Z 0),(3,zp_ X 0),(4,.map (some W)),(6,zp_ a9 0),(14,.slice ad l.length cap),(15,i4_ (List.length l:Int)),(16,i4_ k),(7,i4_ i),(8,zp_ O 0)] zl ?_;refine Zi 9 (λe1=>?_) λe1=>?_
   .refine Zz 9 ?_
    refine F_ (cU_ (k:=(Rul.mk (Lib.join (d.roles.take i) [46]) A (Lib.join (List.take (i+1) d.roles) [46]))) rJ_ xA_ bC_ rfl rfl c2 (λv h _=>(h.own _ (yab_ (i:=2) rfl)).1)) rfl λa0 P=>d_ (aK_ rfl) rfl (Zz 2 ?_)
    cases a0
    .replace P:=zdf P
     refine Zz 5 ?_;refine hJ_ (k:=(Rul.mk (Lib.join (d.roles.take i) [46]) A (Lib.join (List.take (i+1) d.roles) [46]))) 2 rJ_ (.inr rfl) xA_ rfl rfl rfl rfl c2 λH K a1=>Zz 2 ?_
     have a7:=dv_ (List.map (λx=>(Rul.f x,x)) F) (Lib.join (d.roles.take i) [46]);rw[yaC_]at a7;refine fI_ bu_ (Lib.join (d.roles.take i) [46]) b9 (c_ (c_ (c_ (c_ (c_ (g_ s_)))))) λes_2 f3 f4 f1 f2 a5 L=>?_;refine u_ (S_ e_ (S_ (g_ (g_ e_)) (S_ (g_ (g_ e_)) (S_ (g_ (g_ e_)) (S_ (g_ (g_ e_)) (aW_ (g_ (g_ e_)))))))) (au_ ?_);let Pu:Hp:=(Ru::((X,.cells #[.map (some a3),.map (some a2),.map (some V),e] 363 (0,0))::((W,.map H K)::(Tu::((O,.cells Su 373 (0,0))::[])))));refine Y_ Pu zk ?_;refine G_ 4 [0,1,2,3,4,5,6,7,9] zk zs (Zz 10 ?_);refine dz_ 8 10 rfl rfl zk ?_ ?_
     .refine d_ (ce_ (k:=(Lib.join (d.roles.take i) [46])) bu_ L aG_ cd_ rfl rfl 0 rfl) rfl (Zz 3 ?_)
      refine m_ 10 rfl zk (B_ bp_ bv_ bq_ rfl rfl rfl rfl rfl rfl λa8=>?_);refine U_ (List.flatMap Rul.cells [(Rul.mk (Lib.join (d.roles.take i) [46]) A (Lib.join (List.take (i+1) d.roles) [46]))]) e_ rfl ?_;refine Zz 3 ?_;refine m_ 11 rfl zk (bK_ (news:=List.flatMap Rul.cells [(Rul.mk (Lib.join (d.roles.take i) [46]) A (Lib.join (List.take (i+1) d.roles) [46]))]) fM_ a5 rfl rfl (λq=>by cases q) zai_ zp zat_ zf (λu Y=>aF_ Rul.cells_one Y) zal_ zaa_ rfl λb0 b6 e0=>?_);have M:=zsa e0;refine Zz 2 ?_;refine M_ zs (m_ 12 rfl zk (dC_ (k:=(Lib.join (d.roles.take i) [46])) (dd:=(Rul.mk (Lib.join (d.roles.take i) [46]) A (Lib.join (List.take (i+1) d.roles) [46]))) bu_ L zbp_ (.inr rfl) aG_ rfl rfl rfl (cM_ (l_ (g_ e_) (x_ s_ (c_ (c_ (c_ (c_ (c_ s_)))))))) λU J=>?_));refine Zz 5 ?_;have a7:=dv_ (List.map (λx=>(Rul.s x,x)) F) A;rw[yaC_]at a7;refine fI_ bu_ A a6 (g_ (c_ (c_ (c_ (c_ (c_ (g_ s_))))))) λd8 e5 e6 e3 d9 Q E=>?_;refine u_ (S_ e_ (S_ (g_ (g_ (g_ e_))) (S_ (g_ (g_ (g_ e_))) (S_ (g_ (g_ (g_ e_))) (S_ (g_ (g_ (g_ e_))) (aW_ (g_ (g_ (g_ e_))))))))) ?_;refine Y_ Pu zk ?_;refine G_ 4 [0,1,2,3,4,5,6,7,9] zk zs (Zz 10 ?_);refine dz_ 8 10 rfl rfl zk ?_ ?_
      .refine d_ (ce_ (k:=A) bu_ E aG_ cd_ rfl rfl 0 rfl) rfl (Zz 3 ?_)
       refine m_ 10 rfl zk (B_ bp_ bv_ bq_ rfl rfl rfl rfl rfl rfl λd0=>?_);refine U_ (List.flatMap Rul.cells [(Rul.mk (Lib.join (d.roles.take i) [46]) A (Lib.join (List.take (i+1) d.roles) [46]))]) e_ rfl ?_;refine Zz 3 ?_;refine m_ 11 rfl zk (bK_ (news:=List.flatMap Rul.cells [(Rul.mk (Lib.join (d.roles.take i) [46]) A (Lib.join (List.take (i+1) d.roles) [46]))]) fM_ Q rfl rfl (λq=>by cases q) zai_ zp zat_ zf (λu Y=>aF_ Rul.cells_one Y) zal_ zaa_ rfl λb5 b8 d3=>?_);have I:=zsa d3;exact hb_
      refine B_ bp_ bv_ bq_ rfl rfl rfl rfl rfl rfl λd0=>?_;refine U_ (List.flatMap Rul.cells [(Rul.mk (Lib.join (d.roles.take i) [46]) A (Lib.join (List.take (i+1) d.roles) [46]))]) e_ rfl ?_;refine Zz 3 ?_;refine m_ 8 rfl zk (d_ (ce_ (k:=A) bu_ E aG_ cd_ rfl rfl 0 rfl) rfl (Zz 3 ?_));refine m_ 11 rfl zk (bK_ (news:=List.flatMap Rul.cells [(Rul.mk (Lib.join (d.roles.take i) [46]) A (Lib.join (List.take (i+1) d.roles) [46]))]) fM_ Q rfl rfl (λq=>by cases q) zai_ zp zat_ zf (λu Y=>aF_ Rul.cells_one Y) zal_ zaa_ rfl λb5 b8 a4=>?_);have I:=zsa a4;exact hb_
     refine B_ bp_ bv_ bq_ rfl rfl rfl rfl rfl rfl λa8=>?_;refine U_ (List.flatMap Rul.cells [(Rul.mk (Lib.join (d.roles.take i) [46]) A (Lib.join (List.take (i+1) d.roles) [46]))]) e_ rfl ?_;refine Zz 3 ?_;refine m_ 8 rfl zk (d_ (ce_ (k:=(Lib.join (d.roles.take i) [46])) bu_ L aG_ cd_ rfl rfl 0 rfl) rfl (Zz 3 ?_));refine m_ 11 rfl zk (bK_ (news:=List.flatMap Rul.cells [(Rul.mk (Lib.join (d.roles.take i) [46]) A (Lib.join (List.take (i+1) d.roles) [46]))]) fM_ a5 rfl rfl (λq=>by cases q) zai_ zp zat_ zf (λu Y=>aF_ Rul.cells_one Y) zal_ zaa_ rfl λb0 b6 S=>?_);have M:=zsa S;refine Zz 2 ?_;refine M_ zs (m_ 12 rfl zk (dC_ (k:=(Lib.join (d.roles.take i) [46])) (dd:=(Rul.mk (Lib.join (d.roles.take i) [46]) A (Lib.join (List.take (i+1) d.roles) [46]))) bu_ L zbp_ (.inr rfl) aG_ rfl rfl rfl (cM_ (l_ (g_ e_) (x_ s_ (c_ (c_ (c_ (c_ (c_ s_)))))))) λU J=>?_));refine Zz 5 ?_;have a7:=dv_ (List.map (λx=>(Rul.s x,x)) F) A;rw[yaC_]at a7;refine fI_ bu_ A a6 (g_ (c_ (c_ (c_ (c_ (c_ (g_ s_))))))) λd8 e5 e6 e3 d9 Q E=>?_;refine u_ (S_ e_ (S_ (g_ (g_ (g_ e_))) (S_ (g_ (g_ (g_ e_))) (S_ (g_ (g_ (g_ e_))) (S_ (g_ (g_ (g_ e_))) (aW_ (g_ (g_ (g_ e_))))))))) ?_;refine Y_ Pu zk ?_;refine G_ 4 [0,1,2,3,4,5,6,7,9] zk zs (Zz 10 ?_);refine dz_ 8 10 rfl rfl zk ?_ ?_
     .refine d_ (ce_ (k:=A) bu_ E aG_ cd_ rfl rfl 0 rfl) rfl (Zz 3 ?_)
      refine m_ 10 rfl zk (B_ bp_ bv_ bq_ rfl rfl rfl rfl rfl rfl λd0=>?_);refine U_ (List.flatMap Rul.cells [(Rul.mk (Lib.join (d.roles.take i) [46]) A (Lib.join (List.take (i+1) d.roles) [46]))]) e_ rfl ?_;refine Zz 3 ?_;refine m_ 11 rfl zk (bK_ (news:=List.flatMap Rul.cells [(Rul.mk (Lib.join (d.roles.take i) [46]) A (Lib.join (List.take (i+1) d.roles) [46]))]) fM_ Q rfl rfl (λq=>by cases q) zai_ zp zat_ zf (λu Y=>aF_ Rul.cells_one Y) zal_ zaa_ rfl λb5 b8 e4=>?_);have I:=zsa e4;exact hb_
     refine B_ bp_ bv_ bq_ rfl rfl rfl rfl rfl rfl λd0=>?_;refine U_ (List.flatMap Rul.cells [(Rul.mk (Lib.join (d.roles.take i) [46]) A (Lib.join (List.take (i+1) d.roles) [46]))]) e_ rfl ?_;refine Zz 3 ?_;refine m_ 8 rfl zk (d_ (ce_ (k:=A) bu_ E aG_ cd_ rfl rfl 0 rfl) rfl (Zz 3 ?_));refine m_ 11 rfl zk (bK_ (news:=List.flatMap Rul.cells [(Rul.mk (Lib.join (d.roles.take i) [46]) A (Lib.join (List.take (i+1) d.roles) [46]))]) fM_ Q rfl rfl (λq=>by cases q) zai_ zp zat_ zf (λu Y=>aF_ Rul.cells_one Y) zal_ zaa_ rfl λb5 b8 e1=>?_);have I:=zsa e1;exact hb_
    replace P:=zdt P;refine Zz 9 ?_;exact w_ ⟨(i+1,fD_ (Ax.rul d i) F,c1,d2,f0,e9,e,N),by omega,by omega,by rw[jI_ B zaa_,eF_ zaf_];simpa only[yaq_ zaf_] using c2,by rw[jI_ B zaa_,eF_ zaf_];simpa only[yaq_ zaf_] using b9,by rw[jI_ B zaa_,eF_ zaf_];simpa only[yaq_ zaf_] using a6,by have:=lG_ (y:=Ax.rul d i) (l:=F);dsimp only;omega,m⟩ zab_ zl (l_ e_ (l_ (c_ e_) (l_ e_ (x_ (c_ (c_ (g_ (g_ aJ_)))) (x_ (c_ (c_ (g_ s_))) (x_ (c_ (c_ aJ_)) (l_ e_ E_))))))) zh
   refine Zz 7 ?_;refine p_ 4 D_ rfl rfl rfl rfl rfl rfl (Zz 6 ?_);refine F_ (cU_ (k:=(Rul.mk (Lib.join (d.roles.take i) [46]) A d.role)) rJ_ xA_ bC_ rfl rfl c2 (λv h _=>(h.own _ (yab_ (i:=2) rfl)).1)) rfl λa0 P=>d_ (aK_ rfl) rfl (Zz 2 ?_)
   cases a0
   .replace P:=zdf P
    refine Zz 5 ?_;refine hJ_ (k:=(Rul.mk (Lib.join (d.roles.take i) [46]) A d.role)) 2 rJ_ (.inr rfl) xA_ rfl rfl rfl rfl c2 λH K a1=>Zz 2 ?_
    have a7:=dv_ (List.map (λx=>(Rul.f x,x)) F) (Lib.join (d.roles.take i) [46]);rw[yaC_]at a7;refine fI_ bu_ (Lib.join (d.roles.take i) [46]) b9 (c_ (c_ (c_ (c_ (c_ (g_ s_)))))) λes_2 f3 f4 f1 f2 a5 L=>?_;refine u_ (S_ e_ (S_ (g_ (g_ e_)) (S_ (g_ (g_ e_)) (S_ (g_ (g_ e_)) (S_ (g_ (g_ e_)) (aW_ (g_ (g_ e_)))))))) (au_ ?_);let Qu:Hp:=(Ru::((X,.cells #[.map (some a3),.map (some a2),.map (some V),e] 363 (0,0))::((W,.map H K)::(Tu::((O,.cells #[str (Lib.join (d.roles.take i) [46]),str A,str d.role] 373 (0,0))::[])))));refine Y_ Qu zk ?_;refine G_ 4 [0,1,2,3,4,5,6,7,9] zk zs (Zz 10 ?_);refine dz_ 8 10 rfl rfl zk ?_ ?_
    .refine d_ (ce_ (k:=(Lib.join (d.roles.take i) [46])) bu_ L aG_ cd_ rfl rfl 0 rfl) rfl (Zz 3 ?_)
     refine m_ 10 rfl zk (B_ bp_ bv_ bq_ rfl rfl rfl rfl rfl rfl λa8=>?_);refine U_ (List.flatMap Rul.cells [(Rul.mk (Lib.join (d.roles.take i) [46]) A d.role)]) e_ rfl ?_;refine Zz 3 ?_;refine m_ 11 rfl zk (bK_ (news:=List.flatMap Rul.cells [(Rul.mk (Lib.join (d.roles.take i) [46]) A d.role)]) fM_ a5 rfl rfl (λq=>by cases q) zai_ zp zat_ zf (λu Y=>aF_ Rul.cells_one Y) zal_ zaa_ rfl λb0 b6 d7=>?_);have M:=zsa d7;refine Zz 2 ?_;refine M_ zs (m_ 12 rfl zk (dC_ (k:=(Lib.join (d.roles.take i) [46])) (dd:=(Rul.mk (Lib.join (d.roles.take i) [46]) A d.role)) bu_ L zbp_ (.inr rfl) aG_ rfl rfl rfl (cM_ (l_ (g_ e_) (x_ s_ (c_ (c_ (c_ (c_ (c_ s_)))))))) λU J=>?_));refine Zz 5 ?_;have a7:=dv_ (List.map (λx=>(Rul.s x,x)) F) A;rw[yaC_]at a7;refine fI_ bu_ A a6 (g_ (c_ (c_ (c_ (c_ (c_ (g_ s_))))))) λd8 e5 e6 e3 d9 Q E=>?_;refine u_ (S_ e_ (S_ (g_ (g_ (g_ e_))) (S_ (g_ (g_ (g_ e_))) (S_ (g_ (g_ (g_ e_))) (S_ (g_ (g_ (g_ e_))) (aW_ (g_ (g_ (g_ e_))))))))) ?_;refine Y_ Qu zk ?_;refine G_ 4 [0,1,2,3,4,5,6,7,9] zk zs (Zz 10 ?_);refine dz_ 8 10 rfl rfl zk ?_ ?_
     .refine d_ (ce_ (k:=A) bu_ E aG_ cd_ rfl rfl 0 rfl) rfl (Zz 3 ?_)
      refine m_ 10 rfl zk (B_ bp_ bv_ bq_ rfl rfl rfl rfl rfl rfl λd0=>?_);refine U_ (List.flatMap Rul.cells [(Rul.mk (Lib.join (d.roles.take i) [46]) A d.role)]) e_ rfl ?_;refine Zz 3 ?_;refine m_ 11 rfl zk (bK_ (news:=List.flatMap Rul.cells [(Rul.mk (Lib.join (d.roles.take i) [46]) A d.role)]) fM_ Q rfl rfl (λq=>by cases q) zai_ zp zat_ zf (λu Y=>aF_ Rul.cells_one Y) zal_ zaa_ rfl λb5 b8 P=>?_);have I:=zsa P;exact mj_
     exact mg_
    refine B_ bp_ bv_ bq_ rfl rfl rfl rfl rfl rfl λa8=>?_;refine U_ (List.flatMap Rul.cells [(Rul.mk (Lib.join (d.roles.take i) [46]) A d.role)]) e_ rfl ?_;refine Zz 3 ?_;refine m_ 8 rfl zk (d_ (ce_ (k:=(Lib.join (d.roles.take i) [46])) bu_ L aG_ cd_ rfl rfl 0 rfl) rfl (Zz 3 ?_));refine m_ 11 rfl zk (bK_ (news:=List.flatMap Rul.cells [(Rul.mk (Lib.join (d.roles.take i) [46]) A d.role)]) fM_ a5 rfl rfl (λq=>by cases q) zai_ zp zat_ zf (λu Y=>aF_ Rul.cells_one Y) zal_ zaa_ rfl λb0 b6 d7=>?_);have M:=zsa d7;refine Zz 2 ?_;refine M_ zs (m_ 12 rfl zk (dC_ (k:=(Lib.join (d.roles.take i) [46])) (dd:=(Rul.mk (Lib.join (d.roles.take i) [46]) A d.role)) bu_ L zbp_ (.inr rfl) aG_ rfl rfl rfl (cM_ (l_ (g_ e_) (x_ s_ (c_ (c_ (c_ (c_ (c_ s_)))))))) λU J=>?_));refine Zz 5 ?_;have a7:=dv_ (List.map (λx=>(Rul.s x,x)) F) A;rw[yaC_]at a7;refine fI_ bu_ A a6 (g_ (c_ (c_ (c_ (c_ (c_ (g_ s_))))))) λd8 e5 e6 e3 d9 Q E=>?_;refine u_ (S_ e_ (S_ (g_ (g_ (g_ e_))) (S_ (g_ (g_ (g_ e_))) (S_ (g_ (g_ (g_ e_))) (S_ (g_ (g_ (g_ e_))) (aW_ (g_ (g_ (g_ e_))))))))) ?_;refine Y_ Qu zk ?_;refine G_ 4 [0,1,2,3,4,5,6,7,9] zk zs (Zz 10 ?_);refine dz_ 8 10 rfl rfl zk ?_ ?_
    .refine d_ (ce_ (k:=A) bu_ E aG_ cd_ rfl rfl 0 rfl) rfl (Zz 3 ?_)
     refine m_ 10 rfl zk (B_ bp_ bv_ bq_ rfl rfl rfl rfl rfl rfl λd0=>?_);refine U_ (List.flatMap Rul.cells [(Rul.mk (Lib.join (d.roles.take i) [46]) A d.role)]) e_ rfl ?_;refine Zz 3 ?_;exact mf_
    exact mg_
   replace P:=zdt P;refine Zz 9 ?_;exact w_ ⟨(i+1,fD_ (Ax.rul d i) F,c1,d2,f0,e9,e,N),by omega,by omega,by rw[hH_ B zaa_,eF_ zaf_];simpa only[yaq_ zaf_] using c2,by rw[hH_ B zaa_,eF_ zaf_];simpa only[yaq_ zaf_] using b9,by rw[hH_ B zaa_,eF_ zaf_];simpa only[yaq_ zaf_] using a6,by have:=lG_ (y:=Ax.rul d i) (l:=F);dsimp only;omega,m⟩ zab_ zl (l_ e_ (l_ (c_ e_) (l_ e_ (x_ (c_ (c_ (g_ (g_ aJ_)))) (x_ (c_ (c_ (g_ s_))) (x_ (c_ (c_ aJ_)) (l_ e_ E_))))))) zh
  refine Zz 9 ?_;refine B_ n_ D_ V_ rfl rfl rfl rfl rfl rfl λa8=>?_;refine U_ (List.flatMap aa_ [d.role]) e_ rfl ?_;refine bK_ (news:=List.flatMap aa_ [d.role]) dj_ m rfl rfl (λq=>by cases q) zai_ (c_ (c_ (c_ (c_ (g_ (g_ aJ_)))))) (by rw[ch_ aa_ 1 an_];rfl) zf (λu Y=>aF_ cz_ Y) zal_ zaa_ rfl λb0 b6 S=>?_;have M:=zsa S;refine Zz 1 ?_;refine u_ (S_ (g_ e_) (S_ (g_ e_) (S_ (g_ e_) (aW_ (g_ e_))))) (bT_ 3 M dG_ rfl rfl rfl rfl (Zz 7 ?_));exact w_ ⟨(k+1,R,es,cs,d6,d5,LA,QA,(RF++[d.role]),b0,b6),b4,hE,b7,b3,d4,by dsimp only;omega,by dsimp only;(try simp only[yaj_,yak_,yay_]);omega,by dsimp only;(try simp only[yaj_,yak_,yay_]);omega,M⟩ zab_ zl (l_ (c_ e_) (l_ (c_ e_) (l_ (c_ e_) (x_ (c_ (g_ s_)) (x_ (c_ (g_ s_)) (x_ (c_ aJ_) E_)))))) (λ_ _ h=>h.2)
 have e7:=d3;have hon:=(Ax.good_of (hC d C)).one e7;obtain⟨a0,a4⟩:∃ a0,d.roles[0]? = some a0:=⟨_,yaa_ zaa_⟩;have a7:=dv_ LA a0;refine Zz 4 ?_;refine fI_ bu_ a0 d4 (c_ (c_ (c_ (c_ s_)))) λc1 f3 f4 f1 f2 a5 L=>?_;refine u_ (S_ e_ (S_ (g_ (g_ e_)) (S_ (g_ (g_ e_)) (S_ (g_ (g_ e_)) (aW_ (g_ (g_ e_))))))) ?_;refine Y_ ((a9,.cells (Ax.cells d).toArray 30 (0,0))::(Ru::((W,.map es cs)::((X,.cells #[.map (some a3),.map (some a2),.map (some V),e] 363 (0,0))::[])))) zk ?_;refine G_ 4 [0,1,2,3,4,5,6,7,8,9,10,11,13,14] zk zs (Zz 4 ?_);refine N_ rfl (P_ n_ D_ rfl rfl (λv _ h=>av_ (n:=1) an_ zae_ (by exact (h.1.2 d C).2.2) a4) zaa_ zag_) rfl ?_;refine N_ rfl (bw_ (ad:=d.ad) W_ rfl (λv _ h=>by exact (h.1.2 d C).2.2) (A_ an_ a4 0 _ rfl)) rfl (Zz 4 ?_);refine N_ rfl (P_ n_ D_ rfl rfl (λv _ h=>av_ (n:=1) an_ zae_ (by exact (h.1.2 d C).2.2) a4) zaa_ zag_) rfl ?_;refine N_ rfl (bw_ (ad:=d.ad) W_ rfl (λv _ h=>by exact (h.1.2 d C).2.2) (A_ an_ a4 0 _ rfl)) rfl (Zz 3 ?_);refine dz_ 12 15 rfl rfl zk ?_ ?_
 .refine d_ (ce_ (k:=a0) bu_ L bf_ br_ rfl rfl 0 rfl) rfl (Zz 3 ?_)
  refine m_ 15 rfl zk (B_ n_ D_ V_ rfl rfl rfl rfl rfl rfl λa8=>?_);refine U_ (List.flatMap aa_ [d.role]) e_ rfl ?_;refine Zz 3 ?_;exact mi_
 refine B_ n_ D_ V_ rfl rfl rfl rfl rfl rfl λa8=>?_;refine U_ (List.flatMap aa_ [d.role]) e_ rfl ?_;refine Zz 3 ?_;refine m_ 12 rfl zk (d_ (ce_ (k:=a0) bu_ L bf_ br_ rfl rfl 0 rfl) rfl (Zz 3 ?_));exact mi_
end Go.Proofs.YtbffkokbdeppaaaGreatDoor
